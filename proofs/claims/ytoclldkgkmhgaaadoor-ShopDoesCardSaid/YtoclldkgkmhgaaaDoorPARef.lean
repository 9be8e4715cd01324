/- The reference's accounts: Right, Spend, Earn, Pay answer what the program's answer. -/
import Derived.Test.YtoclldkgkmhgaaaDoorCM
import Derived.Test.YtoclldkgkmhgaaaDoorKx37
import Derived.Test.YtoclldkgkmhgaaaDoorKx46
namespace Go.Proofs.YtoclldkgkmhgaaaDoor.K
open Go.RowKit Go.Proofs.YtoclldkgkmhgaaaDoorW.PrintWords Go.Proofs.YtoclldkgkmhgaaaDoorW.PrintLast
set_option linter.unusedVariables false
set_option linter.unusedSimpArgs false

theorem ar_add (k : Nat) (a b : Int) : bazaarref11_Add.f (k + 1) a b = some (addF a b) := by
  unfold bazaarref11_Add.f bazaarref11_Add.j0 addF amt
  by_cases h1 : a < 0
  · simp [h1]; omega
  · by_cases h2 : b < 0
    · simp [h1, h2]; omega
    · by_cases h3 : a > 1152921504606846976
      · simp [h1, h2, h3]; omega
      · by_cases h4 : b > 1152921504606846976
        · simp [h1, h2, h3, h4]; omega
        · have w : wrap64 (a + b) = a + b := by unfold wrap64; omega
          have e1 : (0 ≤ a ∧ a ≤ 1152921504606846976) ∧ 0 ≤ b ∧ b ≤ 1152921504606846976 := by omega
          by_cases h5 : a + b ≤ 1152921504606846976
          · have h6 : ¬ (1152921504606846976 < a + b) := by omega
            simp [h1, h2, h3, h4, w, h5, h6, e1]
          · have h6 : 1152921504606846976 < a + b := by omega
            simp [h1, h2, h3, h4, w, h5, h6, e1]
theorem ar_sub (k : Nat) (a b : Int) : bazaarref11_Sub.f (k + 1) a b = some (subF a b) := by
  unfold bazaarref11_Sub.f bazaarref11_Sub.j0 subF amt
  by_cases h1 : a < 0
  · simp [h1]; omega
  · by_cases h2 : b < 0
    · simp [h1, h2]; omega
    · by_cases h3 : a > 1152921504606846976
      · simp [h1, h2, h3]; omega
      · by_cases h4 : b > 1152921504606846976
        · simp [h1, h2, h3, h4]; omega
        · have w : wrap64 (a - b) = a - b := by unfold wrap64; omega
          have e1 : (0 ≤ a ∧ a ≤ 1152921504606846976) ∧ 0 ≤ b ∧ b ≤ 1152921504606846976 := by omega
          by_cases h5 : a < b <;> simp [h1, h2, h3, h4, w, h5, e1]
theorem ar_right (k : Nat) (a b : Int) : bazaarref13_Right.f (k + 1) a b = some ((addF a b).2 == 0) := by
  unfold bazaarref13_Right.f
  rw [ar_add]
  rfl
theorem ar_earn (k : Nat) (a b n : Int) : bazaarref13_Earn.f (k + 1) a b n = some (earnF a b n) := by
  unfold bazaarref13_Earn.f earnF doesF
  rw [ar_right, ar_add]
  simp only [Option.bind_some]
  rw [ar_add]
  simp only [Option.bind_some]
  by_cases h : (addF a b).2 = 0
  · rw [if_pos h, if_pos (by simpa using h)]
    by_cases h1 : (addF a n).2 = 0
    · rw [if_pos h1, if_pos h1]
      by_cases h2 : (addF (addF a n).1 b).2 = 0
      · rw [if_pos h2, if_pos h2]
      · rw [if_neg h2, if_neg h2]
    · rw [if_neg h1, if_neg h1, if_neg h1]
  · rw [if_neg h, if_neg (by simpa using h)]
theorem ar_spend (k : Nat) (a b n : Int) : bazaarref13_Spend.f (k + 1) a b n = some (spendF a b n) := by
  unfold bazaarref13_Spend.f spendF doesF
  rw [ar_right, ar_sub]
  simp only [Option.bind_some]
  by_cases h : (addF a b).2 = 0
  · rw [if_pos h, if_pos (by simpa using h)]
    by_cases h1 : (subF a n).2 = 0
    · rw [if_pos h1, if_pos h1]
    · rw [if_neg h1, if_neg h1]
  · rw [if_neg h, if_neg (by simpa using h)]
end Go.Proofs.YtoclldkgkmhgaaaDoor.K
