/- Plain facts: the reference's places of keys are keys'. -/
import Derived.Test.YtfncbcbhhddnpaaPMadeK
import Derived.Test.YtfncbcbhhddnpaaKx12
namespace Go.Proofs.Ytfncbcbhhddnpaa.Pure
open Go.RowKit Go.Proofs.Ytfncbcbhhddnpaa.K Go.Proofs.YtfncbcbhhddnpaaW.PrintWords Go.Proofs.YtfncbcbhhddnpaaW.PrintLast Go.Proofs.YtfncbcbhhddnpaaW.PrintMore
set_option linter.unusedVariables false
set_option linter.unusedSimpArgs false
theorem right0 (K : Nat) : bazaarref10_Right.f (K + 1) 0 0 0 0 = some false := refright_is (K + 1) (by omega) 0 0 0 0 (by decide)
theorem chain5 (s : ByteArray) (K : Nat) : bazaarref10_Parse.j5 (K + 2) s false 0 0 0 0 = some (0, 0, 0, 0, 100) := by
  rw [bazaarref10_Parse.j5, if_neg (by simp), right0]
  rfl
theorem eqf {a b : Int} (h : ¬ a = b) : (a == b) = false := by simpa using h
theorem chain4 (s : ByteArray) (hp : (0 : Int) < (s.size : Int)) (n : Int) (K : Nat) (h6 : ¬ (bt s 0 = 116 ∧ n = 4)) : bazaarref10_Parse.j4 (K + 3) s n false 0 0 0 0 = some (0, 0, 0, 0, 100) := by
  rw [bazaarref10_Parse.j4, if_neg (by simp), if_pos hp]
  by_cases hb : bt s 0 = 116
  · rw [if_pos hb, eqf (fun e => h6 ⟨hb, e⟩), chain5]
  · rw [if_neg hb, chain5]
theorem chain3 (s : ByteArray) (hp : (0 : Int) < (s.size : Int)) (n : Int) (K : Nat) (h5 : ¬ (bt s 0 = 110 ∧ n = 2)) (h6 : ¬ (bt s 0 = 116 ∧ n = 4)) : bazaarref10_Parse.j3 (K + 4) s n false 0 0 0 0 = some (0, 0, 0, 0, 100) := by
  rw [bazaarref10_Parse.j3, if_neg (by simp), if_pos hp]
  by_cases hb : bt s 0 = 110
  · rw [if_pos hb, eqf (fun e => h5 ⟨hb, e⟩), chain4 s hp n K h6]
  · rw [if_neg hb, chain4 s hp n K h6]
theorem chain2 (s : ByteArray) (hp : (0 : Int) < (s.size : Int)) (n : Int) (K : Nat) (h4 : ¬ (bt s 0 = 115 ∧ n = 5)) (h5 : ¬ (bt s 0 = 110 ∧ n = 2)) (h6 : ¬ (bt s 0 = 116 ∧ n = 4)) : bazaarref10_Parse.j2 (K + 5) s n false 0 0 0 0 = some (0, 0, 0, 0, 100) := by
  rw [bazaarref10_Parse.j2, if_neg (by simp), if_pos hp]
  by_cases hb : bt s 0 = 115
  · rw [if_pos hb, eqf (fun e => h4 ⟨hb, e⟩), chain3 s hp n K h5 h6]
  · rw [if_neg hb, chain3 s hp n K h5 h6]
theorem chain1 (s : ByteArray) (hp : (0 : Int) < (s.size : Int)) (n : Int) (K : Nat) (h3 : ¬ (bt s 0 = 109 ∧ n = 9)) (h4 : ¬ (bt s 0 = 115 ∧ n = 5)) (h5 : ¬ (bt s 0 = 110 ∧ n = 2)) (h6 : ¬ (bt s 0 = 116 ∧ n = 4)) : bazaarref10_Parse.j1 (K + 6) s n false 0 0 0 0 = some (0, 0, 0, 0, 100) := by
  rw [bazaarref10_Parse.j1, if_neg (by simp), if_pos hp]
  by_cases hb : bt s 0 = 109
  · rw [if_pos hb, eqf (fun e => h3 ⟨hb, e⟩), chain2 s hp n K h4 h5 h6]
  · rw [if_neg hb, chain2 s hp n K h4 h5 h6]
theorem chain0 (s : ByteArray) (hp : (0 : Int) < (s.size : Int)) (n : Int) (K : Nat) (h2 : ¬ (bt s 0 = 105 ∧ n = 7)) (h3 : ¬ (bt s 0 = 109 ∧ n = 9)) (h4 : ¬ (bt s 0 = 115 ∧ n = 5)) (h5 : ¬ (bt s 0 = 110 ∧ n = 2)) (h6 : ¬ (bt s 0 = 116 ∧ n = 4)) : bazaarref10_Parse.j0 (K + 7) s n false 0 0 0 0 = some (0, 0, 0, 0, 100) := by
  rw [bazaarref10_Parse.j0, if_neg (by simp), if_pos hp]
  by_cases hb : bt s 0 = 105
  · rw [if_pos hb, eqf (fun e => h2 ⟨hb, e⟩), chain1 s hp n K h3 h4 h5 h6]
  · rw [if_neg hb, chain1 s hp n K h3 h4 h5 h6]
/-- What is told of a right place. -/
theorem pick (k a i m : Int) : (if rightB k a i m = true then (some (k, a, i, m, (0 : Int)) : Option (Int × Int × Int × Int × Int)) else some (0, 0, 0, 0, 100)) = some (pkF k a i m) := by
  unfold pkF
  split <;> rfl
theorem get5 (s : ByteArray) (K : Nat) (hK : 20 ≤ K) (h : 5 ≤ s.size) : bazaarref03_Get.f K (s.extract 1 5) = some (num32 (s.data.toList.drop 1) 4) := rget_is s K 1 4 (by omega) (by omega) hK
theorem get57 (s : ByteArray) (K : Nat) (hK : 20 ≤ K) (h : 7 ≤ s.size) : bazaarref03_Get.f K (s.extract 5 7) = some (num32 (s.data.toList.drop 5) 2) := rget_is s K 5 2 (by omega) (by omega) hK
theorem get59 (s : ByteArray) (K : Nat) (hK : 20 ≤ K) (h : 9 ≤ s.size) : bazaarref03_Get.f K (s.extract 5 9) = some (num32 (s.data.toList.drop 5) 4) := rget_is s K 5 4 (by omega) (by omega) hK
theorem get24 (s : ByteArray) (K : Nat) (hK : 20 ≤ K) (h : 4 ≤ s.size) : bazaarref03_Get.f K (s.extract 2 4) = some (num32 (s.data.toList.drop 2) 2) := rget_is s K 2 2 (by omega) (by omega) hK
theorem pa (s : ByteArray) (n : Int) (hs : s.size = 5) (K : Nat) (hK : 20 ≤ K) : bazaarref10_Parse.j0 (K + 1) s n true 0 0 0 0 = some (pkF 1 (num32 (s.data.toList.drop 1) 4) 0 0) := by
  have hr := num32_range (s.data.toList.drop 1) 4 (by omega)
  have h5 : (5 : Int) ≤ (s.size : Int) := by omega
  rw [bazaarref10_Parse.j0, if_pos rfl, if_pos (by decide), if_pos h5, get5 s K hK (by omega)]
  simp only [Option.bind_some]
  rw [mod32 hr, refright_is K (by omega) _ _ _ _ hr.1]
  simp only [Option.bind_some]
  exact pick _ _ _ _
theorem pi (s : ByteArray) (n : Int) (hs : s.size = 7) (K : Nat) (hK : 20 ≤ K) : bazaarref10_Parse.j1 (K + 1) s n true 0 0 0 0 = some (pkF 2 (num32 (s.data.toList.drop 1) 4) (IntKind.u16.wrap (num32 (s.data.toList.drop 5) 2)) 0) := by
  have hr := num32_range (s.data.toList.drop 1) 4 (by omega)
  have h5 : (5 : Int) ≤ (s.size : Int) := by omega
  have h7 : (7 : Int) ≤ (s.size : Int) := by omega
  rw [bazaarref10_Parse.j1, if_pos rfl, if_pos (by decide), if_pos h5, get5 s K hK (by omega)]
  simp only [Option.bind_some]
  rw [if_pos (by decide), if_pos h7, get57 s K hK (by omega)]
  simp only [Option.bind_some]
  rw [mod32 hr, refright_is K (by omega) _ _ _ _ hr.1]
  simp only [Option.bind_some]
  exact pick _ _ _ _
theorem pm (s : ByteArray) (n : Int) (hs : s.size = 9) (K : Nat) (hK : 20 ≤ K) : bazaarref10_Parse.j2 (K + 1) s n true 0 0 0 0 = some (pkF 3 (num32 (s.data.toList.drop 1) 4) 0 (num32 (s.data.toList.drop 5) 4)) := by
  have hr := num32_range (s.data.toList.drop 1) 4 (by omega)
  have hr2 := num32_range (s.data.toList.drop 5) 4 (by omega)
  have h5 : (5 : Int) ≤ (s.size : Int) := by omega
  have h9 : (9 : Int) ≤ (s.size : Int) := by omega
  rw [bazaarref10_Parse.j2, if_pos rfl, if_pos (by decide), if_pos h5, get5 s K hK (by omega)]
  simp only [Option.bind_some]
  rw [if_pos (by decide), if_pos h9, get59 s K hK (by omega)]
  simp only [Option.bind_some]
  rw [mod32 hr, mod32 hr2, refright_is K (by omega) _ _ _ _ hr.1]
  simp only [Option.bind_some]
  exact pick _ _ _ _
theorem ps (s : ByteArray) (n : Int) (hs : s.size = 5) (K : Nat) (hK : 20 ≤ K) : bazaarref10_Parse.j3 (K + 1) s n true 0 0 0 0 = some (pkF 4 (num32 (s.data.toList.drop 1) 4) 0 0) := by
  have hr := num32_range (s.data.toList.drop 1) 4 (by omega)
  have h5 : (5 : Int) ≤ (s.size : Int) := by omega
  rw [bazaarref10_Parse.j3, if_pos rfl, if_pos (by decide), if_pos h5, get5 s K hK (by omega)]
  simp only [Option.bind_some]
  rw [mod32 hr, refright_is K (by omega) _ _ _ _ hr.1]
  simp only [Option.bind_some]
  exact pick _ _ _ _
theorem pn (s : ByteArray) (n : Int) (hs : s.size = 2) (K : Nat) (hK : 20 ≤ K) : bazaarref10_Parse.j4 (K + 1) s n true 0 0 0 0 = some (pkF 5 (bt s 1) 0 0) := by
  have hr := bt_range s 1
  have h1 : (1 : Int) < (s.size : Int) := by omega
  rw [bazaarref10_Parse.j4, if_pos rfl, if_pos h1, mod32 (by omega), refright_is K (by omega) _ _ _ _ hr.1]
  simp only [Option.bind_some]
  exact pick _ _ _ _
theorem pt (s : ByteArray) (hs : s.size = 4) (K : Nat) (hK : 20 ≤ K) : bazaarref10_Parse.j5 (K + 1) s true 0 0 0 0 = some (pkF 6 (bt s 1) (IntKind.u16.wrap (num32 (s.data.toList.drop 2) 2)) 0) := by
  have hr := bt_range s 1
  have h1 : (1 : Int) < (s.size : Int) := by omega
  have h4 : (4 : Int) ≤ (s.size : Int) := by omega
  rw [bazaarref10_Parse.j5, if_pos rfl, if_pos h1, if_pos (by decide), if_pos h4, get24 s K hK (by omega)]
  simp only [Option.bind_some]
  rw [mod32 (by omega), refright_is K (by omega) _ _ _ _ hr.1]
  simp only [Option.bind_some]
  exact pick _ _ _ _
theorem skip0 (s : ByteArray) (hp : (0 : Int) < (s.size : Int)) (n : Int) (K : Nat) (h : ¬ bt s 0 = 105) : bazaarref10_Parse.j0 (K + 1) s n false 0 0 0 0 = bazaarref10_Parse.j1 K s n false 0 0 0 0 := by rw [bazaarref10_Parse.j0, if_neg (by simp), if_pos hp, if_neg h]
theorem skip1 (s : ByteArray) (hp : (0 : Int) < (s.size : Int)) (n : Int) (K : Nat) (h : ¬ bt s 0 = 109) : bazaarref10_Parse.j1 (K + 1) s n false 0 0 0 0 = bazaarref10_Parse.j2 K s n false 0 0 0 0 := by rw [bazaarref10_Parse.j1, if_neg (by simp), if_pos hp, if_neg h]
theorem skip2 (s : ByteArray) (hp : (0 : Int) < (s.size : Int)) (n : Int) (K : Nat) (h : ¬ bt s 0 = 115) : bazaarref10_Parse.j2 (K + 1) s n false 0 0 0 0 = bazaarref10_Parse.j3 K s n false 0 0 0 0 := by rw [bazaarref10_Parse.j2, if_neg (by simp), if_pos hp, if_neg h]
theorem skip3 (s : ByteArray) (hp : (0 : Int) < (s.size : Int)) (n : Int) (K : Nat) (h : ¬ bt s 0 = 110) : bazaarref10_Parse.j3 (K + 1) s n false 0 0 0 0 = bazaarref10_Parse.j4 K s n false 0 0 0 0 := by rw [bazaarref10_Parse.j3, if_neg (by simp), if_pos hp, if_neg h]
theorem start_ne (s : ByteArray) (h0 : 0 < s.size) (h : ¬ bt s 0 = 97) (K : Nat) : bazaarref10_Parse.f K s = bazaarref10_Parse.j0 K s (s.size : Int) false 0 0 0 0 := by
  have hp : (0 : Int) < (s.size : Int) := by omega
  have hne : ¬ s.toList = [] := fun e => by have := (data_nil s).1 e; omega
  unfold bazaarref10_Parse.f
  rw [if_neg hne, if_pos hp, if_neg h]
theorem refparse_is (s : ByteArray) (hs : s.size ≤ 20) : bazaarref10_Parse.f 60 s = keys_Parse.f s := by
  by_cases h0 : s.size = 0
  · rw [kp_none s (by omega) (fun f _ => fits_nil s f h0)]
    unfold bazaarref10_Parse.f
    rw [if_pos ((data_nil s).2 h0)]
  have hp : (0 : Int) < (s.size : Int) := by omega
  have hne : ¬ s.toList = [] := fun e => h0 ((data_nil s).1 e)
  by_cases c1 : bt s 0 = 97 ∧ s.size = 5
  · rw [kp_a s c1.2 c1.1, ← pa s (s.size : Int) c1.2 59 (by omega)]
    unfold bazaarref10_Parse.f
    rw [if_neg hne, if_pos hp, if_pos c1.1, show ((s.size : Int) == 5) = true from by rw [c1.2]; rfl]
  by_cases c2 : bt s 0 = 105 ∧ s.size = 7
  · rw [kp_i s c2.2 c2.1, ← pi s (s.size : Int) c2.2 58 (by omega), start_ne s (by omega) (by omega), show (60 : Nat) = 59 + 1 from rfl, bazaarref10_Parse.j0, if_neg (by simp), if_pos hp, if_pos c2.1, show ((s.size : Int) == 7) = true from by rw [c2.2]; rfl]
  by_cases c3 : bt s 0 = 109 ∧ s.size = 9
  · rw [kp_m s c3.2 c3.1, ← pm s (s.size : Int) c3.2 57 (by omega), start_ne s (by omega) (by omega), show (60 : Nat) = 58 + 1 + 1 from rfl, skip0 s hp _ _ (by omega), bazaarref10_Parse.j1, if_neg (by simp), if_pos hp, if_pos c3.1, show ((s.size : Int) == 9) = true from by rw [c3.2]; rfl]
  by_cases c4 : bt s 0 = 115 ∧ s.size = 5
  · rw [kp_s s c4.2 c4.1, ← ps s (s.size : Int) c4.2 56 (by omega), start_ne s (by omega) (by omega), show (60 : Nat) = 57 + 1 + 1 + 1 from rfl, skip0 s hp _ _ (by omega), skip1 s hp _ _ (by omega), bazaarref10_Parse.j2, if_neg (by simp), if_pos hp, if_pos c4.1, show ((s.size : Int) == 5) = true from by rw [c4.2]; rfl]
  by_cases c5 : bt s 0 = 110 ∧ s.size = 2
  · rw [kp_n s c5.2 c5.1, ← pn s (s.size : Int) c5.2 55 (by omega), start_ne s (by omega) (by omega), show (60 : Nat) = 56 + 1 + 1 + 1 + 1 from rfl, skip0 s hp _ _ (by omega), skip1 s hp _ _ (by omega), skip2 s hp _ _ (by omega), bazaarref10_Parse.j3, if_neg (by simp), if_pos hp, if_pos c5.1, show ((s.size : Int) == 2) = true from by rw [c5.2]; rfl]
  by_cases c6 : bt s 0 = 116 ∧ s.size = 4
  · rw [kp_t s c6.2 c6.1, ← pt s c6.2 54 (by omega), start_ne s (by omega) (by omega), show (60 : Nat) = 55 + 1 + 1 + 1 + 1 + 1 from rfl, skip0 s hp _ _ (by omega), skip1 s hp _ _ (by omega), skip2 s hp _ _ (by omega), skip3 s hp _ _ (by omega), bazaarref10_Parse.j4, if_neg (by simp), if_pos hp, if_pos c6.1, show ((s.size : Int) == 4) = true from by rw [c6.2]; rfl]
  have d2 : ¬ (bt s 0 = 105 ∧ (s.size : Int) = 7) := by omega
  have d3 : ¬ (bt s 0 = 109 ∧ (s.size : Int) = 9) := by omega
  have d4 : ¬ (bt s 0 = 115 ∧ (s.size : Int) = 5) := by omega
  have d5 : ¬ (bt s 0 = 110 ∧ (s.size : Int) = 2) := by omega
  have d6 : ¬ (bt s 0 = 116 ∧ (s.size : Int) = 4) := by omega
  have hc := chain0 s hp (s.size : Int) 53 d2 d3 d4 d5 d6
  rw [kp_else s (by omega) (by omega) ⟨c1, c2, c3, c4, c5, c6⟩, ← hc]
  by_cases hb : bt s 0 = 97
  · unfold bazaarref10_Parse.f
    rw [if_neg hne, if_pos hp, if_pos hb, eqf (by omega)]
  · exact start_ne s (by omega) hb 60
end Go.Proofs.Ytfncbcbhhddnpaa.Pure
