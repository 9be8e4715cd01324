/- The reference's right mails. -/
import Derived.Test.YtoclldkgkmhgaaaDoorCS
import Derived.Test.YtoclldkgkmhgaaaDoorKx26
namespace Go.Proofs.YtoclldkgkmhgaaaDoor.K
open Go.RowKit Go.Proofs.YtoclldkgkmhgaaaDoorW.PrintWords Go.Proofs.YtoclldkgkmhgaaaDoorW.PrintLast
set_option linter.unusedVariables false
set_option linter.unusedSimpArgs false

theorem mr_one (a : Int) : bazaarref11_Right.f a = some (0 ≤ a && a ≤ 1152921504606846976 : Bool) := by
  unfold bazaarref11_Right.f
  by_cases h : a ≥ 0
  · rw [if_pos h]; simp [show (0 : Int) ≤ a from h]
  · rw [if_neg h]; simp [show ¬ (0 : Int) ≤ a from h]
theorem mr_right (m0 m1 m2 m3 : Int) : bazaarref14_Right.f m0 m1 m2 m3 = some (mailOk m0 m1 m2 m3) := by
  unfold bazaarref14_Right.f mailOk
  rw [mr_one, mr_one]
  simp only [Option.bind_some]
  by_cases h0 : m0 ≥ 1
  · rw [if_pos h0]
    by_cases h1 : m0 ≤ 1000000
    · rw [if_pos h1]
      have e0 : (1 ≤ m0 && m0 ≤ 1000000 : Bool) = true := by simp; omega
      rw [e0, Bool.true_and]
      by_cases h2 : 0 ≤ m1 ∧ m1 ≤ 1152921504606846976
      · have e2 : (0 ≤ m1 && m1 ≤ 1152921504606846976 : Bool) = true := by simp; omega
        rw [e2, if_pos rfl, Bool.true_and]
        by_cases h3 : 0 ≤ m3 ∧ m3 ≤ 1152921504606846976
        · have e3 : (0 ≤ m3 && m3 ≤ 1152921504606846976 : Bool) = true := by simp; omega
          rw [e3, if_pos rfl]
          by_cases h8 : m3 = 0
          · rw [if_neg (show ¬ m3 > 0 by omega), if_neg (show ¬ m3 > 0 by omega), if_pos h8]
            by_cases h6 : m1 > 0
            · have e4 : (0 < m1 && m1 ≤ 1152921504606846976 : Bool) = true := by simp; omega
              rw [if_pos h6, e4, Bool.and_true]
            · have e4 : (0 < m1 && m1 ≤ 1152921504606846976 : Bool) = false := by simp; omega
              rw [if_neg h6, e4, Bool.and_false]
          · rw [if_pos (show m3 > 0 by omega), if_pos (show m3 > 0 by omega), if_neg h8]
            split <;> rfl
        · have e3 : (0 ≤ m3 && m3 ≤ 1152921504606846976 : Bool) = false := by simp; omega
          rw [e3, if_neg Bool.false_ne_true, if_neg (show ¬ m3 = 0 by omega)]
      · have e2 : (0 ≤ m1 && m1 ≤ 1152921504606846976 : Bool) = false := by simp; omega
        have e4 : (0 < m1 && m1 ≤ 1152921504606846976 : Bool) = false := by simp; omega
        rw [e2, if_neg Bool.false_ne_true, e4, Bool.and_false, Bool.false_and, ite_self]
    · rw [if_neg h1]; simp [h0, h1]
  · rw [if_neg h0]; simp; omega
end Go.Proofs.YtoclldkgkmhgaaaDoor.K
