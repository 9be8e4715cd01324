/- The reference's right listings. -/
import Derived.Test.YtoclldkgkmhgaaaDoorSList
import Derived.Test.YtoclldkgkmhgaaaDoorKx59
namespace Go.Proofs.YtoclldkgkmhgaaaDoor.K
open Go.RowKit Go.Proofs.YtoclldkgkmhgaaaDoorW.PrintWords Go.Proofs.YtoclldkgkmhgaaaDoorW.PrintLast
set_option linter.unusedVariables false
set_option linter.unusedSimpArgs false

theorem sd_one (a : Int) : bazaarref11_Right.f a = some (0 ≤ a && a ≤ 1152921504606846976 : Bool) := by
  unfold bazaarref11_Right.f
  by_cases h : a ≥ 0
  · rw [if_pos h]; simp [show (0 : Int) ≤ a from h]
  · rw [if_neg h]; simp [show ¬ (0 : Int) ≤ a from h]
theorem sd_right (x0 x1 x2 x3 : Int) : bazaarref15_Right.f x0 x1 x2 x3 = some (listOk x0 x1 x2 x3) := by
  unfold bazaarref15_Right.f listOk
  rw [sd_one, sd_one]
  simp only [Option.bind_some]
  by_cases h0 : x0 ≥ 1
  · rw [if_pos h0]
    by_cases h1 : x0 ≤ 1000000
    · have e0 : (1 ≤ x0 && x0 ≤ 1000000 : Bool) = true := by simp; omega
      rw [if_pos h1, e0, Bool.true_and]
      cases h2 : (0 ≤ x2 && x2 ≤ 1152921504606846976 : Bool)
      · rw [if_neg Bool.false_ne_true, Bool.false_and, Bool.false_and]
      · rw [if_pos rfl, Bool.true_and]
        cases h3 : (0 ≤ x3 && x3 ≤ 1152921504606846976 : Bool)
        · rw [if_neg Bool.false_ne_true, Bool.false_and]
        · rw [if_pos rfl, Bool.true_and]
    · have e0 : (1 ≤ x0 && x0 ≤ 1000000 : Bool) = false := by simp; omega
      rw [if_neg h1, e0, Bool.false_and]
  · have e0 : (1 ≤ x0 && x0 ≤ 1000000 : Bool) = false := by simp; omega
    rw [if_neg h0, e0, Bool.false_and]
end Go.Proofs.YtoclldkgkmhgaaaDoor.K
