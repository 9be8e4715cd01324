/- The plain law AccountsKeep. -/
import Derived.Test.YtgnjodocggihoaaDoorPA
import Derived.Test.YtgnjodocggihoaaDoorAAre
import Derived.Test.YtgnjodocggihoaaDoorKx27a
namespace Go.Proofs.YtgnjodocggihoaaDoor.Pure
open Go.RowKit Go.Proofs.YtgnjodocggihoaaDoor.K
set_option linter.unusedVariables false
set_option linter.unusedSimpArgs false

theorem right_acc {a b : Int} (h : Acc a b) : accounts_Right.f a b = some true := by
  have h2 : (addF a b).2 = 0 := by
    rcases acc_or a b with ⟨_, e⟩ | ⟨e, _⟩
    · exact e
    · exact absurd h e
  have h3 : accounts_purse_isRight.f a b = some true := by
    simp [accounts_purse_isRight.f, money_Add.f, h2]
  unfold accounts_Right.f
  rw [h3]
  rfl
theorem total_is (a b : Int) : bazaarlaw13_total.f a b = some (wrap64 (a + b)) := rfl
theorem kpay_cases (a0 a1 b0 b1 n : Int) : (∃ e, e ≠ 0 ∧ accounts_Pay.f a0 a1 b0 b1 n = some (0, 0, 0, 0, e)) ∨ (Acc a0 a1 ∧ Acc b0 b1 ∧ 0 ≤ n ∧ n ≤ a0 ∧ b0 + n + b1 ≤ 1152921504606846976 ∧ accounts_Pay.f a0 a1 b0 b1 n = some (a0 - n, a1, b0 + n, b1, 0)) := by
  unfold accounts_Pay.f accounts_are.f accounts_Spend.f accounts_Earn.f
  rw [if_neg (by simp)]
  simp only [Option.bind_some, List.all_cons, List.all_nil, Bool.and_true]
  by_cases h : (okS ⟨a0, a1⟩ && okS ⟨b0, b1⟩) = true
  · rw [if_pos h]
    rcases spend_cases a0 a1 n with ⟨hA, h0, h1, he⟩ | ⟨e, hne, he⟩
    · rw [he, if_pos rfl]
      rcases earn_cases b0 b1 n with ⟨hB, _, h3, he2⟩ | ⟨e, hne, he2⟩
      · rw [he2, if_pos rfl]
        exact .inr ⟨hA, hB, h0, h1, h3, rfl⟩
      · rw [he2, if_neg hne]
        exact .inl ⟨e, hne, rfl⟩
    · rw [he, if_neg hne]
      exact .inl ⟨e, hne, rfl⟩
  · rw [if_neg h]
    exact .inl ⟨130, by decide, rfl⟩
theorem keep_j0 (k : Nat) (a0 a1 b0 b1 n x0 x1 y0 y1 g : Int) (h : (g ≠ 0) ∨ (Acc a0 a1 ∧ Acc b0 b1 ∧ 0 ≤ n ∧ n ≤ a0 ∧ b0 + n + b1 ≤ 1152921504606846976 ∧ x0 = a0 - n ∧ x1 = a1 ∧ y0 = b0 + n ∧ y1 = b1)) :
    bazaarlaw13_AccountsKeep.j0 (k + 1) n true g false a0 a1 b0 b1 x0 x1 y0 y1 = some true := by
  rw [bazaarlaw13_AccountsKeep.j0, if_neg (by decide), if_pos rfl]
  by_cases hg : g = 0
  · rcases h with h | ⟨⟨a1', a2, a3⟩, ⟨b1', b2, b3⟩, h0, h1, h2, rfl, rfl, rfl, rfl⟩
    · exact absurd hg h
    · have w1 : wrap64 (wrap64 (a0 - n + x1) + n) = wrap64 (a0 + x1) := by unfold wrap64; omega
      have w2 : wrap64 (b0 + n + y1) = wrap64 (wrap64 (b0 + y1) + n) := by unfold wrap64; omega
      rw [if_pos hg, total_is, total_is, total_is, total_is]
      simp only [Option.bind_some]
      rw [w1, if_pos rfl, w2, if_pos rfl, right_acc ⟨by omega, by omega, by omega⟩, right_acc ⟨by omega, by omega, by omega⟩]
      simp
  · rw [if_neg hg]
theorem keep_f (k : Nat) (a0 a1 b0 b1 n : Int) : bazaarlaw13_AccountsKeep.f (k + 1) a0 a1 b0 b1 n = some true := by
  unfold bazaarlaw13_AccountsKeep.f
  rw [shown_true]
  simp only [Option.bind_some]
  have hd : accounts_Deposit.f a0 a1 n = some (depositF a0 a1 n) := rfl
  have hw : accounts_Withdraw.f a0 a1 n = some (withdrawF a0 a1 n) := rfl
  rw [hd, hw]
  simp only [Option.bind_some]
  obtain ⟨x0, x1, y0, y1, g, hp, hj⟩ : ∃ x0 x1 y0 y1 g, accounts_Pay.f a0 a1 b0 b1 n = some (x0, x1, y0, y1, g) ∧ ((g ≠ 0) ∨ (Acc a0 a1 ∧ Acc b0 b1 ∧ 0 ≤ n ∧ n ≤ a0 ∧ b0 + n + b1 ≤ 1152921504606846976 ∧ x0 = a0 - n ∧ x1 = a1 ∧ y0 = b0 + n ∧ y1 = b1)) := by
    rcases kpay_cases a0 a1 b0 b1 n with ⟨e, hne, he⟩ | ⟨h1, h2, h3, h4, h5, he⟩
    · exact ⟨_, _, _, _, _, he, .inl hne⟩
    · exact ⟨_, _, _, _, _, he, .inr ⟨h1, h2, h3, h4, h5, rfl, rfl, rfl, rfl⟩⟩
  have J := keep_j0 k a0 a1 b0 b1 n x0 x1 y0 y1 g hj
  rw [hp]
  simp only [Option.bind_some]
  rcases deposit_cases a0 a1 n with ⟨⟨a1', a2, a3⟩, h0, h1, h2, he⟩ | ⟨e, hne, he⟩
  · have s1 : wrap64 (a0 - n + (a1 + n)) = wrap64 (a0 + a1) := by congr 1; omega
    rw [he, if_pos rfl, total_is, total_is]
    simp only [Option.bind_some]
    rw [s1, if_pos rfl, right_acc ⟨by omega, by omega, by omega⟩]
    simp only [Option.bind_some, if_true]
    rcases withdraw_cases a0 a1 n with ⟨⟨b1', b2, b3⟩, g0, g1, g2, hf⟩ | ⟨e, hne, hf⟩
    · have s2 : wrap64 (a0 + n + (a1 - n)) = wrap64 (a0 + a1) := by congr 1; omega
      rw [hf, if_pos rfl, total_is]
      simp only [Option.bind_some]
      rw [s2, if_pos rfl, right_acc ⟨by omega, by omega, by omega⟩]
      exact J
    · rw [hf, if_neg hne]
      exact J
  · rw [he, if_neg hne]
    rcases withdraw_cases a0 a1 n with ⟨⟨b1', b2, b3⟩, g0, g1, g2, hf⟩ | ⟨e, hne, hf⟩
    · have s2 : wrap64 (a0 + n + (a1 - n)) = wrap64 (a0 + a1) := by congr 1; omega
      rw [hf, if_pos rfl, total_is, total_is]
      simp only [Option.bind_some]
      rw [s2, if_pos rfl, right_acc ⟨by omega, by omega, by omega⟩]
      exact J
    · rw [hf, if_neg hne]
      exact J
end Go.Proofs.YtgnjodocggihoaaDoor.Pure
