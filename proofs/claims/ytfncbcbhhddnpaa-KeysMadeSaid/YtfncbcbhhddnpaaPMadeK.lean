/- Plain facts: the reference's keys are keys'. -/
import Derived.Test.YtfncbcbhhddnpaaPMade
import Derived.Test.YtfncbcbhhddnpaaKx10
namespace Go.Proofs.Ytfncbcbhhddnpaa.Pure
open Go.RowKit Go.Proofs.Ytfncbcbhhddnpaa.K Go.Proofs.YtfncbcbhhddnpaaW.PrintWords Go.Proofs.YtfncbcbhhddnpaaW.PrintLast Go.Proofs.YtfncbcbhhddnpaaW.PrintMore
set_option linter.unusedVariables false
set_option linter.unusedSimpArgs false
theorem refright_is (K : Nat) (hK : 1 ≤ K) (k a i m : Int) (ha : 0 ≤ a) : bazaarref10_Right.f K k a i m = some (rightB k a i m) := by
  obtain ⟨K, rfl⟩ : ∃ q, K = q + 1 := ⟨K - 1, by omega⟩
  unfold bazaarref10_Right.f rightB
  by_cases e1 : k = 1
  · subst e1
    by_cases h1 : a ≥ 1 <;> by_cases h2 : a ≤ 1000000 <;> by_cases hi : i = 0 <;> by_cases hm : m = 0 <;> simp [bazaarref10_Right.j0, h1, h2, hi, hm]
  by_cases e2 : k = 2
  · subst e2
    by_cases h1 : a ≥ 1 <;> by_cases h2 : a ≤ 1000000 <;> by_cases hm : m = 0 <;> simp [bazaarref10_Right.j0, h1, h2, hm]
  by_cases e3 : k = 3
  · subst e3
    by_cases h1 : a ≥ 1 <;> by_cases h2 : a ≤ 1000000 <;> by_cases hi : i = 0 <;> by_cases hm : m ≥ 1 <;> by_cases hm2 : m ≤ 1073741824 <;> simp [bazaarref10_Right.j0, h1, h2, hi, hm, hm2]
  by_cases e4 : k = 4
  · subst e4
    by_cases h1 : a ≥ 1 <;> by_cases h2 : a ≤ 1073741824 <;> by_cases hi : i = 0 <;> by_cases hm : m = 0 <;> simp [bazaarref10_Right.j0, h1, h2, hi, hm]
  by_cases e5 : k = 5
  · subst e5
    by_cases h1 : a = 1
    · subst h1
      by_cases hi : i = 0 <;> by_cases hm : m = 0 <;> simp [bazaarref10_Right.j0, hi, hm]
    · by_cases h2 : a = 2
      · subst h2
        by_cases hi : i = 0 <;> by_cases hm : m = 0 <;> simp [bazaarref10_Right.j0, hi, hm]
      · have h3 : ¬ (1 ≤ a ∧ a ≤ 2) := by omega
        by_cases h4 : a ≥ 1 <;> simp [bazaarref10_Right.j0, h1, h2, h3, h4] <;> (intros; omega)
  by_cases e6 : k = 6
  · subst e6
    by_cases h1 : a ≤ 1 <;> by_cases h2 : a ≥ 1 <;> by_cases hm : m = 0 <;> simp [bazaarref10_Right.j0, h1, h2, hm, ha]
  by_cases h1 : a ≥ 1 <;> simp [bazaarref10_Right.j0, e1, e2, e3, e4, e5, e6, h1]
theorem str_cons (x : UInt8) (l : List UInt8) : (⟨#[x]⟩ : ByteArray) ++ str l = str (x :: l) := str_app [x] l
theorem refkey_is (k a i m : Int) (ha : 0 ≤ a ∧ a ≤ 4294967295) (hi : 0 ≤ i ∧ i ≤ 65535) (hm : 0 ≤ m ∧ m ≤ 4294967295) : bazaarref10_Key.f 60 k a i m = keys_Key.f k a i m := by
  have q4 : bazaarref03_Put.f 60 (IntKind.u64.wrap a) 4 = some (str (be a 4)) := rput_is a ha.1 ha.2 4 60 (by omega) (by omega)
  have q2 : bazaarref03_Put.f 60 (IntKind.u64.wrap i) 2 = some (str (be i 2)) := rput_is i hi.1 (by omega) 2 60 (by omega) (by omega)
  have qm : bazaarref03_Put.f 60 (IntKind.u64.wrap m) 4 = some (str (be m 4)) := rput_is m hm.1 hm.2 4 60 (by omega) (by omega)
  have r := refright_is 60 (by omega) k a i m ha.1
  have z4 : ∀ n : Int, (str (be n 4)).size = 4 := fun n => by rw [str_sz, be_length]
  have z2 : ∀ n : Int, (str (be n 2)).size = 2 := fun n => by rw [str_sz, be_length]
  have x4 : ∀ n : Int, (str (be n 4)).extract 3 4 = str (be n 1) := fun n => by rw [str_ext (be n 4) 3 4 (be_length n 4)]; rfl
  have z1 : ∀ n : Int, (str (be n 1)).size = 1 := fun n => by rw [str_sz, be_length]
  cases h : rightB k a i m with
  | false =>
    rw [key_wrong h hi.1 hi.2]
    unfold bazaarref10_Key.f
    rw [r, h]
    rfl
  | true =>
    rw [key_right h hi.1 hi.2]
    unfold bazaarref10_Key.f
    rw [r, h, q4, q2, qm]
    simp only [Option.bind_some, if_true]
    rcases right_cases h with ⟨rfl, _, rfl, _⟩ | ⟨rfl, rfl, rfl, _⟩ | ⟨rfl, rfl, _⟩ | ⟨rfl, rfl, rfl, _⟩ | ⟨rfl, rfl, rfl, _⟩ | ⟨rfl, rfl, _⟩
    · rw [if_neg (by decide), if_neg (by decide), if_pos rfl, z4, if_pos (by decide), str_cons, str_sz, z4, List.length_cons, be_length, if_pos (by decide), str_app]
      rfl
    · rw [if_pos rfl, z4, if_pos (by decide), str_cons]
      show some (str (97 :: be a 4), (0 : Int)) = some (str (97 :: (be a 4 ++ ([] ++ []))), 0)
      rw [List.append_nil, List.append_nil]
    · rw [if_neg (by decide), if_pos rfl, z4, if_pos (by decide), str_cons, str_sz, z2, List.length_cons, be_length, if_pos (by decide), str_app]
      show some (str (105 :: be a 4 ++ be i 2), (0 : Int)) = some (str (105 :: (be a 4 ++ (be i 2 ++ []))), 0)
      rw [List.append_nil]
      rfl
    · rw [if_neg (by decide), if_neg (by decide), if_neg (by decide), if_pos rfl, z4, if_pos (by decide), str_cons]
      show some (str (115 :: be a 4), (0 : Int)) = some (str (115 :: (be a 4 ++ ([] ++ []))), 0)
      rw [List.append_nil, List.append_nil]
    · rw [if_neg (by decide), if_neg (by decide), if_neg (by decide), if_neg (by decide), if_pos rfl, z4, if_pos (by decide), x4, z1, if_pos (by decide), str_cons]
      show some (str (110 :: be a 1), (0 : Int)) = some (str (110 :: (be a 1 ++ ([] ++ []))), 0)
      rw [List.append_nil, List.append_nil]
    · rw [if_neg (by decide), if_neg (by decide), if_neg (by decide), if_neg (by decide), if_neg (by decide), z4, if_pos (by decide), x4, z1, if_pos (by decide), str_cons, str_sz, z2, List.length_cons, be_length, if_pos (by decide), str_app]
      show some (str (116 :: be a 1 ++ be i 2), (0 : Int)) = some (str (116 :: (be a 1 ++ (be i 2 ++ []))), 0)
      rw [List.append_nil]
      rfl
theorem mod32 {n : Int} (h : 0 ≤ n ∧ n ≤ 4294967295) : n % 4294967296 = n := by omega
theorem bt_range (s : ByteArray) (j : Int) : 0 ≤ bt s j ∧ bt s j ≤ 255 := by
  unfold bt
  split
  · rename_i h
    have := (s[j.toNat]).toNat_lt
    omega
  · omega
end Go.Proofs.Ytfncbcbhhddnpaa.Pure
