/- The plain law AccountsDo. -/
import Derived.Test.YtgnjodocggihoaaDoorPA
import Derived.Test.YtgnjodocggihoaaDoorAAre
import Derived.Test.YtgnjodocggihoaaDoorKx25a
namespace Go.Proofs.YtgnjodocggihoaaDoor.Pure
open Go.RowKit Go.Proofs.YtgnjodocggihoaaDoor.K
set_option linter.unusedVariables false
set_option linter.unusedSimpArgs false

theorem ref_add (k : Nat) (a b : Int) : bazaarref11_Add.f (k + 1) a b = some (addF a b) := by
  unfold bazaarref11_Add.f bazaarref11_Add.j0 addF amt
  by_cases h1 : a < 0
  · simp [h1]; omega
  · by_cases h2 : b < 0
    · simp [h1, h2]; omega
    · by_cases h3 : a > 1152921504606846976
      · simp [h1, h2, h3]; omega
      · by_cases h4 : b > 1152921504606846976
        · simp [h1, h2, h3, h4]; omega
        · have w : wrap64 (a + b) = a + b := by unfold wrap64; omega
          have e1 : (0 ≤ a ∧ a ≤ 1152921504606846976) ∧ 0 ≤ b ∧ b ≤ 1152921504606846976 := by omega
          by_cases h5 : a + b ≤ 1152921504606846976
          · have h6 : ¬ (1152921504606846976 < a + b) := by omega
            simp [h1, h2, h3, h4, w, h5, h6, e1]
          · have h6 : 1152921504606846976 < a + b := by omega
            simp [h1, h2, h3, h4, w, h5, h6, e1]
theorem ref_sub (k : Nat) (a b : Int) : bazaarref11_Sub.f (k + 1) a b = some (subF a b) := by
  unfold bazaarref11_Sub.f bazaarref11_Sub.j0 subF amt
  by_cases h1 : a < 0
  · simp [h1]; omega
  · by_cases h2 : b < 0
    · simp [h1, h2]; omega
    · by_cases h3 : a > 1152921504606846976
      · simp [h1, h2, h3]; omega
      · by_cases h4 : b > 1152921504606846976
        · simp [h1, h2, h3, h4]; omega
        · have w : wrap64 (a - b) = a - b := by unfold wrap64; omega
          have e1 : (0 ≤ a ∧ a ≤ 1152921504606846976) ∧ 0 ≤ b ∧ b ≤ 1152921504606846976 := by omega
          by_cases h5 : a < b <;> simp [h1, h2, h3, h4, w, h5, e1]
theorem ref_move (k : Nat) (a b n : Int) : bazaarref11_Move.f (k + 1) a b n = some (moveF a b n) := by
  unfold bazaarref11_Move.f moveF
  rw [ref_sub, ref_add]
  simp only [Option.bind_some]
  by_cases h1 : (subF a n).2 = 0
  · rw [if_pos h1, if_pos h1]
    by_cases h2 : (addF b n).2 = 0
    · rw [if_pos h2, if_pos h2]
    · rw [if_neg h2, if_neg h2]
  · rw [if_neg h1, if_neg h1]
theorem ref_right (k : Nat) (a b : Int) : bazaarref13_Right.f (k + 1) a b = some ((addF a b).2 == 0) := by
  unfold bazaarref13_Right.f
  rw [ref_add]
  rfl
theorem ref_deposit (k : Nat) (a b n : Int) : bazaarref13_Deposit.f (k + 1) a b n = some (depositF a b n) := by
  unfold bazaarref13_Deposit.f depositF doesF
  rw [ref_right, ref_move]
  simp only [Option.bind_some]
  by_cases h : (addF a b).2 = 0
  · rw [if_pos h, if_pos (by simpa using h)]
    rcases move_cases a b n with ⟨_, _, _, _, _, e⟩ | ⟨x, hx, e⟩
    · rw [e]; rfl
    · rw [e]; simp [hx]
  · rw [if_neg h, if_neg (by simpa using h)]
theorem ref_withdraw (k : Nat) (a b n : Int) : bazaarref13_Withdraw.f (k + 1) a b n = some (withdrawF a b n) := by
  unfold bazaarref13_Withdraw.f withdrawF doesF
  rw [ref_right, ref_move]
  simp only [Option.bind_some]
  by_cases h : (addF a b).2 = 0
  · rw [if_pos h, if_pos (by simpa using h)]
    rcases move_cases b a n with ⟨_, _, _, _, _, e⟩ | ⟨x, hx, e⟩
    · rw [e]; rfl
    · rw [e]; simp [hx]
  · rw [if_neg h, if_neg (by simpa using h)]
theorem ref_earn (k : Nat) (a b n : Int) : bazaarref13_Earn.f (k + 1) a b n = some (earnF a b n) := by
  unfold bazaarref13_Earn.f earnF doesF
  rw [ref_right, ref_add]
  simp only [Option.bind_some]
  rw [ref_add]
  simp only [Option.bind_some]
  by_cases h : (addF a b).2 = 0
  · rw [if_pos h, if_pos (by simpa using h)]
    by_cases h1 : (addF a n).2 = 0
    · rw [if_pos h1, if_pos h1]
      by_cases h2 : (addF (addF a n).1 b).2 = 0
      · rw [if_pos h2, if_pos h2]
      · rw [if_neg h2, if_neg h2]
    · rw [if_neg h1, if_neg h1, if_neg h1]
  · rw [if_neg h, if_neg (by simpa using h)]
theorem ref_spend (k : Nat) (a b n : Int) : bazaarref13_Spend.f (k + 1) a b n = some (spendF a b n) := by
  unfold bazaarref13_Spend.f spendF doesF
  rw [ref_right, ref_sub]
  simp only [Option.bind_some]
  by_cases h : (addF a b).2 = 0
  · rw [if_pos h, if_pos (by simpa using h)]
    by_cases h1 : (subF a n).2 = 0
    · rw [if_pos h1, if_pos h1]
    · rw [if_neg h1, if_neg h1]
  · rw [if_neg h, if_neg (by simpa using h)]
theorem ref_pay (k : Nat) (a0 a1 b0 b1 n : Int) : bazaarref13_Pay.f (k + 2) a0 a1 b0 b1 n = accounts_Pay.f a0 a1 b0 b1 n := by
  unfold bazaarref13_Pay.f accounts_Pay.f accounts_are.f accounts_Spend.f accounts_Earn.f
  rw [ref_right, ref_right, if_neg (by simp)]
  simp only [Option.bind_some, List.all_cons, List.all_nil, Bool.and_true, bazaarref13_Pay.j0, okS]
  rw [ref_spend]
  simp only [Option.bind_some]
  rw [ref_earn]
  simp only [Option.bind_some]
  cases ((addF a0 a1).2 == 0) <;> cases ((addF b0 b1).2 == 0) <;> simp
theorem kpay_any (a0 a1 b0 b1 n : Int) : ∃ p, accounts_Pay.f a0 a1 b0 b1 n = some p := by
  unfold accounts_Pay.f accounts_are.f accounts_Spend.f accounts_Earn.f
  rw [if_neg (by simp)]
  simp only [Option.bind_some]
  split
  · split
    · split
      · exact ⟨_, rfl⟩
      · exact ⟨_, rfl⟩
    · exact ⟨_, rfl⟩
  · exact ⟨_, rfl⟩
theorem right_is (a b : Int) : accounts_Right.f a b = some ((addF a b).2 == 0) := by
  have h3 : accounts_purse_isRight.f a b = some ((addF a b).2 == 0) := by
    simp [accounts_purse_isRight.f, money_Add.f]
  unfold accounts_Right.f
  rw [h3]
  rfl
theorem do_f (k : Nat) (a0 a1 b0 b1 n : Int) : bazaarlaw13_AccountsDo.f (k + 2) a0 a1 b0 b1 n = some true := by
  obtain ⟨p, hp⟩ : ∃ p, accounts_Pay.f a0 a1 b0 b1 n = some p := by
    rcases kpay_any a0 a1 b0 b1 n with ⟨p, hp⟩
    exact ⟨p, hp⟩
  unfold bazaarlaw13_AccountsDo.f
  rw [shown_true, ref_pay, hp, show k + 2 = (k + 1) + 1 from rfl, ref_deposit, ref_withdraw, ref_earn, ref_spend, ref_right, right_is]
  unfold accounts_Deposit.f accounts_Withdraw.f accounts_Earn.f accounts_Spend.f
  simp
end Go.Proofs.YtgnjodocggihoaaDoor.Pure
