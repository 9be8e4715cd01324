/- AccountsBack's plain law. -/
import Derived.Test.YtgnjodocggihoaaDoorPAcc
import Derived.Test.YtgnjodocggihoaaDoorAAre
import Derived.Test.YtgnjodocggihoaaDoorMBytesP
import Derived.Test.YtgnjodocggihoaaDoorKx33
import Derived.Test.YtgnjodocggihoaaDoorKx39
import Derived.Test.YtgnjodocggihoaaDoorKx44
namespace Go.Proofs.YtgnjodocggihoaaDoor.Pure
open Go.RowKit Go.Proofs.YtgnjodocggihoaaDoor.K Go.Proofs.YtgnjodocggihoaaDoorW.PrintWords Go.Proofs.YtgnjodocggihoaaDoorW.PrintLast Go.Proofs.YtgnjodocggihoaaDoorW.PrintMore
set_option linter.unusedVariables false
set_option linter.unusedSimpArgs false
theorem are_one (a b : Int) : accounts_are.f [(⟨a, b⟩ : S23)] = some (decide ((addF a b).2 = 0)) := by
  unfold accounts_are.f
  rw [if_neg (by simp)]
  simp [okS]
  cases h : (addF a b).2 == 0 <;> simp_all
/-- An account's bytes. -/
def abF (a b : Int) : ByteArray × Int := if (addF a b).2 = 0 then (strOfNums (flatI [a, b]), 0) else (⟨#[]⟩, 130)
theorem acc_all {a b : Int} (h : Acc a b) : [a, b].all amt = true := by
  have h1 := (amt_iff a).2 h.1
  have h2 := (amt_iff b).2 h.2.1
  simp [h1, h2]
theorem ab_is (a b : Int) (k : Nat) (hk : 60 ≤ k) : accounts_Bytes.f k a b = some (abF a b) := by
  unfold accounts_Bytes.f abF
  rw [are_one]
  simp only [Option.bind_some]
  rcases acc_or a b with ⟨h, e⟩ | ⟨h, e⟩
  · rw [if_pos (by simp [e]), if_pos e, bytes_is [a, b] k (by simp) (by simp; omega)]
    unfold bytesF
    rw [if_pos (acc_all h)]
    rfl
  · rw [if_neg (by simp [e]), if_neg e]
theorem eights_at (s : ByteArray) (j : Nat) (h : j < (eightsL s).length) : (eightsL s)[j] = eightN s j := by
  simp [eightsL]
theorem eights_two (s : ByteArray) (h : s.size = 16) : eightsL s = [eightN s 0, eightN s 1] := by
  unfold eightsL
  rw [h, show List.range (16 / 8) = [0, 1] from by decide]
  simp only [List.map_cons, List.map_nil]
theorem j0_two (k : Nat) (x y : Int) : accounts_Parse.j0 (k + 1) [x, y] false = some (if (addF x y).2 = 0 then (x, y, 0) else (0, 0, 130)) := by
  have e0 : rd [x, y] 0 = x := rfl
  have e1 : rd [x, y] 1 = y := rfl
  rw [accounts_Parse.j0, if_neg (by simp), if_pos (by simp), if_pos (by simp), e0, e1, are_one]
  simp only [Option.bind_some]
  by_cases h : (addF x y).2 = 0
  · rw [if_pos (by simp [h]), if_pos h]
  · rw [if_neg (by simp [h]), if_neg h]
/-- What accounts.Parse tells. -/
def apF (s : ByteArray) : Int × Int × Int := if parseGood s = true ∧ s.size = 16 ∧ (addF (eightN s 0) (eightN s 1)).2 = 0 then (eightN s 0, eightN s 1, 0) else (0, 0, 130)
theorem ap_is (s : ByteArray) (hs : s.size ≤ 200) (k : Nat) : accounts_Parse.f (k + 1) s = some (apF s) := by
  unfold accounts_Parse.f apF
  rw [parse_is s (by omega)]
  simp only [Option.bind_some]
  by_cases hg : parseGood s = true
  · rw [if_pos hg]
    have h8 := ((good_iff s).1 hg).1
    have hl := parse_size s
    simp only [if_true]
    by_cases h16 : s.size = 16
    · rw [eights_two s h16]
      generalize eightN s 0 = x
      generalize eightN s 1 = y
      have hn2 : ((([x, y] : List Int).length : Int) != 2) = false := by simp
      rw [hn2, j0_two]
      by_cases ha : (addF x y).2 = 0
      · rw [if_pos ha, if_pos ⟨hg, h16, ha⟩]
      · rw [if_neg ha, if_neg (fun h => ha h.2.2)]
    · have hne : (((eightsL s).length : Int) != 2) = true := by
        rw [hl, bne_iff_ne]
        omega
      rw [hne, accounts_Parse.j0, if_pos rfl, if_neg (fun h => h16 h.2.1)]
  · rw [if_neg hg]
    rw [if_neg (by decide), accounts_Parse.j0, if_pos rfl, if_neg (fun h => hg h.1)]
theorem apF_ab {a b : Int} (h : Acc a b) (e : (addF a b).2 = 0) : apF (strOfNums (flatI [a, b])) = (a, b, 0) := by
  have hL := eights_flat [a, b] (acc_all h)
  have hz : (strOfNums (flatI [a, b])).size = 16 := by rw [flat_size]; rfl
  have hg : parseGood (strOfNums (flatI [a, b])) = true := (good_iff _).2 ⟨by rw [hz], by rw [hL]; exact acc_all h⟩
  have e2 : eightsL (strOfNums (flatI [a, b])) = [eightN (strOfNums (flatI [a, b])) 0, eightN (strOfNums (flatI [a, b])) 1] := by
    exact eights_two _ hz
  rw [hL] at e2
  simp only [List.cons.injEq, and_true] at e2
  unfold apF
  rw [← e2.1, ← e2.2, if_pos ⟨hg, hz, e⟩]
theorem abF_ap {s : ByteArray} (hg : parseGood s = true) (h16 : s.size = 16) (e : (addF (eightN s 0) (eightN s 1)).2 = 0) : abF (eightN s 0) (eightN s 1) = (s, 0) := by
  have hL : eightsL s = [eightN s 0, eightN s 1] := eights_two s h16
  have := bytes_parse s hg
  unfold bytesF at this
  rw [if_pos ((good_iff s).1 hg).2, hL] at this
  unfold abF
  rw [if_pos e]
  exact this
end Go.Proofs.YtgnjodocggihoaaDoor.Pure
namespace Go.Proofs.YtgnjodocggihoaaDoor.Pure
open Go.RowKit Go.Proofs.YtgnjodocggihoaaDoor.K Go.Proofs.YtgnjodocggihoaaDoorW.PrintWords Go.Proofs.YtgnjodocggihoaaDoorW.PrintLast Go.Proofs.YtgnjodocggihoaaDoorW.PrintMore
set_option linter.unusedVariables false
set_option linter.unusedSimpArgs false
theorem accback_tail (s : ByteArray) (hs : s.size ≤ 40) : bazaarlaw13_AccountsBack.j0 100 s true false = some true := by
  rw [bazaarlaw13_AccountsBack.j0, if_neg (by simp), ap_is s (by omega) 98]
  simp only [Option.bind_some]
  rw [ab_is _ _ 99 (by omega)]
  simp only [Option.bind_some, if_true]
  by_cases h : parseGood s = true ∧ s.size = 16 ∧ (addF (eightN s 0) (eightN s 1)).2 = 0
  · have e : apF s = (eightN s 0, eightN s 1, 0) := by unfold apF; rw [if_pos h]
    rw [e]
    simp only [if_true]
    rw [abF_ap h.1 h.2.1 h.2.2]
    simp
  · have e : apF s = (0, 0, 130) := by unfold apF; rw [if_neg h]
    rw [e]
    simp
theorem AccountsBack (a b : Int) (s : ByteArray) (wa : (Lit.int .i64 a).wf = true) (wb : (Lit.int .i64 b).wf = true) (ws : s.size ≤ 140737488351232) : bazaarlaw13_AccountsBack.f 100 a b s = some true := by
  unfold bazaarlaw13_AccountsBack.f
  rw [shown_true]
  have hm : 0 ≤ mn (s.size : Int) 40 ∧ mn (s.size : Int) 40 ≤ s.size ∧ mn (s.size : Int) 40 ≤ 40 := by unfold mn; split <;> omega
  have hu : (s.extract 0 (mn (s.size : Int) 40).toNat).size ≤ 40 := by rw [ByteArray.size_extract]; omega
  simp only [Option.bind_some]
  rw [if_pos hm.1, if_pos hm.2.1]
  generalize s.extract 0 (mn (s.size : Int) 40).toNat = u at hu
  rw [ab_is a b 100 (by omega)]
  simp only [Option.bind_some]
  unfold abF
  rcases acc_or a b with ⟨h, e⟩ | ⟨h, e⟩
  · rw [if_pos e]
    simp only [if_true]
    rw [ap_is _ (by rw [flat_size]; simp) 99, apF_ab h e]
    simp only [Option.bind_some, if_true, beq_self_eq_true, Bool.not_true, Bool.or_self]
    exact accback_tail u hu
  · rw [if_neg e]
    simp only
    rw [ap_is _ (by show (0 : Nat) ≤ 200; omega) 99]
    simp only [Option.bind_some]
    rw [if_neg (by decide)]
    exact accback_tail u hu
end Go.Proofs.YtgnjodocggihoaaDoor.Pure
