/- AccountsBytes' plain law. -/
import Derived.Test.YtgnjodocggihoaaDoorKx43
import Derived.Test.YtgnjodocggihoaaDoorPA
import Derived.Test.YtgnjodocggihoaaDoorAAre
import Derived.Test.YtgnjodocggihoaaDoorMRef
namespace Go.Proofs.YtgnjodocggihoaaDoor.Pure
open Go.RowKit Go.Proofs.YtgnjodocggihoaaDoor.K Go.Proofs.YtgnjodocggihoaaDoorW.PrintWords Go.Proofs.YtgnjodocggihoaaDoorW.PrintLast Go.Proofs.YtgnjodocggihoaaDoorW.PrintMore
set_option linter.unusedVariables false
set_option linter.unusedSimpArgs false
theorem are_one (a b : Int) : accounts_are.f [(⟨a, b⟩ : S23)] = some (decide ((addF a b).2 = 0)) := by
  unfold accounts_are.f
  rw [if_neg (by simp)]
  simp [okS]
  cases h : (addF a b).2 == 0 <;> simp_all
/-- An account's bytes. -/
def abF (a b : Int) : ByteArray × Int := if (addF a b).2 = 0 then (strOfNums (flatI [a, b]), 0) else (⟨#[]⟩, 130)
theorem acc_all {a b : Int} (h : Acc a b) : [a, b].all amt = true := by
  have h1 := (amt_iff a).2 h.1
  have h2 := (amt_iff b).2 h.2.1
  simp [h1, h2]
theorem ab_is (a b : Int) (k : Nat) (hk : 60 ≤ k) : accounts_Bytes.f k a b = some (abF a b) := by
  unfold accounts_Bytes.f abF
  rw [are_one]
  simp only [Option.bind_some]
  rcases acc_or a b with ⟨h, e⟩ | ⟨h, e⟩
  · rw [if_pos (by simp [e]), if_pos e, bytes_is [a, b] k (by simp) (by simp; omega)]
    unfold bytesF
    rw [if_pos (acc_all h)]
    rfl
  · rw [if_neg (by simp [e]), if_neg e]
theorem eights_at (s : ByteArray) (j : Nat) (h : j < (eightsL s).length) : (eightsL s)[j] = eightN s j := by
  simp [eightsL]
theorem eights_two (s : ByteArray) (h : s.size = 16) : eightsL s = [eightN s 0, eightN s 1] := by
  unfold eightsL
  rw [h, show List.range (16 / 8) = [0, 1] from by decide]
  simp only [List.map_cons, List.map_nil]
theorem j0_two (k : Nat) (x y : Int) : accounts_Parse.j0 (k + 1) [x, y] false = some (if (addF x y).2 = 0 then (x, y, 0) else (0, 0, 130)) := by
  have e0 : rd [x, y] 0 = x := rfl
  have e1 : rd [x, y] 1 = y := rfl
  rw [accounts_Parse.j0, if_neg (by simp), if_pos (by simp), if_pos (by simp), e0, e1, are_one]
  simp only [Option.bind_some]
  by_cases h : (addF x y).2 = 0
  · rw [if_pos (by simp [h]), if_pos h]
  · rw [if_neg (by simp [h]), if_neg h]
/-- What accounts.Parse tells. -/
def apF (s : ByteArray) : Int × Int × Int := if parseGood s = true ∧ s.size = 16 ∧ (addF (eightN s 0) (eightN s 1)).2 = 0 then (eightN s 0, eightN s 1, 0) else (0, 0, 130)
theorem ap_is (s : ByteArray) (hs : s.size ≤ 200) (k : Nat) : accounts_Parse.f (k + 1) s = some (apF s) := by
  unfold accounts_Parse.f apF
  rw [parse_is s (by omega)]
  simp only [Option.bind_some]
  by_cases hg : parseGood s = true
  · rw [if_pos hg]
    have h8 := ((good_iff s).1 hg).1
    have hl := parse_size s
    simp only [if_true]
    by_cases h16 : s.size = 16
    · rw [eights_two s h16]
      generalize eightN s 0 = x
      generalize eightN s 1 = y
      have hn2 : ((([x, y] : List Int).length : Int) != 2) = false := by simp
      rw [hn2, j0_two]
      by_cases ha : (addF x y).2 = 0
      · rw [if_pos ha, if_pos ⟨hg, h16, ha⟩]
      · rw [if_neg ha, if_neg (fun h => ha h.2.2)]
    · have hne : (((eightsL s).length : Int) != 2) = true := by
        rw [hl, bne_iff_ne]
        omega
      rw [hne, accounts_Parse.j0, if_pos rfl, if_neg (fun h => h16 h.2.1)]
  · rw [if_neg hg]
    rw [if_neg (by decide), accounts_Parse.j0, if_pos rfl, if_neg (fun h => hg h.1)]
theorem apF_ab {a b : Int} (h : Acc a b) (e : (addF a b).2 = 0) : apF (strOfNums (flatI [a, b])) = (a, b, 0) := by
  have hL := eights_flat [a, b] (acc_all h)
  have hz : (strOfNums (flatI [a, b])).size = 16 := by rw [flat_size]; rfl
  have hg : parseGood (strOfNums (flatI [a, b])) = true := (good_iff _).2 ⟨by rw [hz], by rw [hL]; exact acc_all h⟩
  have e2 : eightsL (strOfNums (flatI [a, b])) = [eightN (strOfNums (flatI [a, b])) 0, eightN (strOfNums (flatI [a, b])) 1] := by
    exact eights_two _ hz
  rw [hL] at e2
  simp only [List.cons.injEq, and_true] at e2
  unfold apF
  rw [← e2.1, ← e2.2, if_pos ⟨hg, hz, e⟩]
theorem abF_ap {s : ByteArray} (hg : parseGood s = true) (h16 : s.size = 16) (e : (addF (eightN s 0) (eightN s 1)).2 = 0) : abF (eightN s 0) (eightN s 1) = (s, 0) := by
  have hL : eightsL s = [eightN s 0, eightN s 1] := eights_two s h16
  have := bytes_parse s hg
  unfold bytesF at this
  rw [if_pos ((good_iff s).1 hg).2, hL] at this
  unfold abF
  rw [if_pos e]
  exact this
theorem ref_add (a b : Int) (k : Nat) : bazaarref11_Add.f (k + 1) a b = some (addF a b) := by
  unfold bazaarref11_Add.f
  rcases add_cases a b with ⟨h1, h2, h3, e⟩ | ⟨h1, h2, h3, e⟩ | ⟨h1, e⟩ <;> rw [e] <;> simp only [amt_iff] at *
  · rw [if_neg (by omega), if_neg (by omega), if_neg (by omega), decide_eq_false (by omega), bazaarref11_Add.j0, if_neg (by simp), wrap64_small (by omega) (by omega), if_neg (by omega)]
  · rw [if_neg (by omega), if_neg (by omega), if_neg (by omega), decide_eq_false (by omega), bazaarref11_Add.j0, if_neg (by simp), wrap64_small (by omega) (by omega), if_pos (by omega)]
  · split
    · rw [bazaarref11_Add.j0, if_pos rfl]
    · split
      · rw [bazaarref11_Add.j0, if_pos rfl]
      · split
        · rw [bazaarref11_Add.j0, if_pos rfl]
        · rw [decide_eq_true (by omega), bazaarref11_Add.j0, if_pos rfl]
theorem refright_is (a b : Int) (k : Nat) : bazaarref13_Right.f (k + 1) a b = some (decide ((addF a b).2 = 0)) := by
  unfold bazaarref13_Right.f
  rw [ref_add]
  simp only [Option.bind_some]
  congr 1
theorem refab_is (a b : Int) (k : Nat) (hk : 200 ≤ k) : bazaarref13_Bytes.f (k + 1) a b = some (abF a b) := by
  unfold bazaarref13_Bytes.f abF
  rw [refright_is]
  simp only [Option.bind_some]
  rcases acc_or a b with ⟨h, e⟩ | ⟨h, e⟩
  · rw [if_pos (by simp [e]), if_pos e, refbytes_is [a, b] (by simp) (k + 1) (by omega)]
    unfold bytesF
    rw [if_pos (acc_all h)]
    rfl
  · rw [if_neg (by simp [e]), if_neg e]
theorem refj0_two (k : Nat) (x y : Int) : bazaarref13_Parse.j0 (k + 2) [x, y] false = some (if (addF x y).2 = 0 then (x, y, 0) else (0, 0, 130)) := by
  have e0 : rd [x, y] 0 = x := rfl
  have e1 : rd [x, y] 1 = y := rfl
  rw [bazaarref13_Parse.j0, if_neg (by simp), if_pos (by simp), if_pos (by simp), e0, e1, refright_is]
  simp only [Option.bind_some]
  by_cases h : (addF x y).2 = 0
  · rw [if_pos (by simp [h]), if_pos h]
  · rw [if_neg (by simp [h]), if_neg h]
theorem refap_is (s : ByteArray) (hs : s.size ≤ 200) (k : Nat) (hk : 100 ≤ k) : bazaarref13_Parse.f (k + 2) s = some (apF s) := by
  unfold bazaarref13_Parse.f apF
  rw [refparse_is s hs (k + 2) (by omega), parse_is s (by omega)]
  simp only [Option.bind_some]
  by_cases hg : parseGood s = true
  · rw [if_pos hg]
    have h8 := ((good_iff s).1 hg).1
    have hl := parse_size s
    simp only [if_true]
    by_cases h16 : s.size = 16
    · rw [eights_two s h16]
      generalize eightN s 0 = x
      generalize eightN s 1 = y
      have hn2 : ((([x, y] : List Int).length : Int) != 2) = false := by simp
      rw [hn2, refj0_two]
      by_cases ha : (addF x y).2 = 0
      · rw [if_pos ha, if_pos ⟨hg, h16, ha⟩]
      · rw [if_neg ha, if_neg (fun h => ha h.2.2)]
    · have hne : (((eightsL s).length : Int) != 2) = true := by
        rw [hl, bne_iff_ne]
        omega
      rw [hne, bazaarref13_Parse.j0, if_pos rfl, if_neg (fun h => h16 h.2.1)]
  · rw [if_neg hg]
    rw [if_neg (by decide), bazaarref13_Parse.j0, if_pos rfl, if_neg (fun h => hg h.1)]
theorem AccountsBytes (a b : Int) (s : ByteArray) (wa : (Lit.int .i64 a).wf = true) (wb : (Lit.int .i64 b).wf = true) (ws : s.size ≤ 140737488351232) : bazaarlaw13_AccountsBytes.f 300 a b s = some true := by
  unfold bazaarlaw13_AccountsBytes.f
  rw [shown_true]
  have hm : 0 ≤ mn (s.size : Int) 40 ∧ mn (s.size : Int) 40 ≤ s.size ∧ mn (s.size : Int) 40 ≤ 40 := by unfold mn; split <;> omega
  have hu : (s.extract 0 (mn (s.size : Int) 40).toNat).size ≤ 40 := by rw [ByteArray.size_extract]; omega
  simp only [Option.bind_some]
  rw [if_pos hm.1, if_pos hm.2.1]
  generalize s.extract 0 (mn (s.size : Int) 40).toNat = u at hu
  rw [ab_is a b 300 (by omega), refab_is a b 299 (by omega), ap_is u (by omega) 299, refap_is u (by omega) 298 (by omega)]
  generalize apF u = p
  generalize abF a b = q
  simp
end Go.Proofs.YtgnjodocggihoaaDoor.Pure
