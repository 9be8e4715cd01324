/- Texts laid into one (merge.py): Core, Acc. -/
import Derived.Test.YtgnjodocggihoaaDoorMMove
import Derived.Test.YtgnjodocggihoaaDoorAOps
import Derived.Test.YtgnjodocggihoaaDoorKx7
namespace Go.Proofs.YtgnjodocggihoaaDoor.Pure
open Go.RowKit Go.Proofs.YtgnjodocggihoaaDoor.K
set_option linter.unusedVariables false
set_option linter.unusedSimpArgs false
theorem amt_iff (n : Int) : amt n = true ↔ 0 ≤ n ∧ n ≤ 1152921504606846976 := by unfold amt; simp
theorem add_cases (a b : Int) : (amt a = true ∧ amt b = true ∧ a + b ≤ 1152921504606846976 ∧ addF a b = (a + b, 0)) ∨ (amt a = true ∧ amt b = true ∧ 1152921504606846976 < a + b ∧ addF a b = (0, 111)) ∨ (¬ (amt a = true ∧ amt b = true) ∧ addF a b = (0, 110)) := by
  unfold addF
  by_cases h : amt a = true ∧ amt b = true
  · rw [if_pos (by simp [h.1, h.2])]
    by_cases h2 : a + b ≤ 1152921504606846976
    · rw [if_pos h2]; exact .inl ⟨h.1, h.2, h2, rfl⟩
    · rw [if_neg h2]; exact .inr (.inl ⟨h.1, h.2, by omega, rfl⟩)
  · rw [if_neg (by simpa using h)]; exact .inr (.inr ⟨h, rfl⟩)
theorem sub_cases (a b : Int) : (amt a = true ∧ amt b = true ∧ b ≤ a ∧ subF a b = (a - b, 0)) ∨ (amt a = true ∧ amt b = true ∧ a < b ∧ subF a b = (0, 112)) ∨ (¬ (amt a = true ∧ amt b = true) ∧ subF a b = (0, 110)) := by
  unfold subF
  by_cases h : amt a = true ∧ amt b = true
  · rw [if_pos (by simp [h.1, h.2])]
    by_cases h2 : a < b
    · rw [if_pos h2]; exact .inr (.inl ⟨h.1, h.2, h2, rfl⟩)
    · rw [if_neg h2]; exact .inl ⟨h.1, h.2, by omega, rfl⟩
  · rw [if_neg (by simpa using h)]; exact .inr (.inr ⟨h, rfl⟩)
theorem move_cases (a b n : Int) : (amt a = true ∧ amt b = true ∧ amt n = true ∧ n ≤ a ∧ b + n ≤ 1152921504606846976 ∧ moveF a b n = (a - n, b + n, 0)) ∨ (∃ e, e ≠ 0 ∧ moveF a b n = (0, 0, e)) := by
  unfold moveF
  rcases sub_cases a n with ⟨h1, h2, h3, e⟩ | ⟨h1, h2, h3, e⟩ | ⟨h1, e⟩ <;> rw [e]
  · rw [if_pos rfl]
    rcases add_cases b n with ⟨k1, k2, k3, f⟩ | ⟨k1, k2, k3, f⟩ | ⟨k1, f⟩ <;> rw [f]
    · exact .inl ⟨h1, k1, h2, h3, k3, rfl⟩
    · exact .inr ⟨111, by decide, rfl⟩
    · exact .inr ⟨110, by decide, rfl⟩
  · exact .inr ⟨112, by decide, rfl⟩
  · exact .inr ⟨110, by decide, rfl⟩
theorem amt0 : amt 0 = true := by decide
theorem wf64 {n : Int} (h : (Lit.int .i64 n).wf = true) : -9223372036854775808 ≤ n ∧ n ≤ 9223372036854775807 := by
  simp [Lit.wf, IntKind.min, IntKind.max, IntKind.signed, IntKind.bits] at h
  omega
end Go.Proofs.YtgnjodocggihoaaDoor.Pure

namespace Go.Proofs.YtgnjodocggihoaaDoor.Pure
open Go.RowKit Go.Proofs.YtgnjodocggihoaaDoor.K
set_option linter.unusedVariables false
set_option linter.unusedSimpArgs false
/-- An account: both amounts, their sum too. -/
def Acc (a b : Int) : Prop := (0 ≤ a ∧ a ≤ 1152921504606846976) ∧ (0 ≤ b ∧ b ≤ 1152921504606846976) ∧ a + b ≤ 1152921504606846976
theorem acc_or (a b : Int) : (Acc a b ∧ (addF a b).2 = 0) ∨ (¬ Acc a b ∧ (addF a b).2 ≠ 0) := by
  rcases add_cases a b with ⟨h1, h2, h3, e⟩ | ⟨h1, h2, h3, e⟩ | ⟨h1, e⟩
  · rw [e]; rw [amt_iff] at h1 h2; exact .inl ⟨⟨h1, h2, h3⟩, rfl⟩
  · rw [e]; exact .inr ⟨fun h => by have := h.2.2; omega, by decide⟩
  · rw [e]; exact .inr ⟨fun h => h1 ⟨(amt_iff _).2 h.1, (amt_iff _).2 h.2.1⟩, by decide⟩
theorem does_cases (a b x y c : Int) : (Acc a b ∧ c = 0 ∧ doesF a b x y c = (x, y, 0)) ∨ ∃ e, e ≠ 0 ∧ doesF a b x y c = (0, 0, e) := by
  unfold doesF
  rcases acc_or a b with ⟨h, e⟩ | ⟨h, e⟩
  · rw [if_pos e]
    by_cases hc : c = 0
    · rw [if_pos hc]; exact .inl ⟨h, hc, rfl⟩
    · rw [if_neg hc]; exact .inr ⟨c, hc, rfl⟩
  · rw [if_neg e]; exact .inr ⟨130, by decide, rfl⟩
theorem deposit_cases (a b n : Int) : (Acc a b ∧ 0 ≤ n ∧ n ≤ a ∧ b + n ≤ 1152921504606846976 ∧ depositF a b n = (a - n, b + n, 0)) ∨ ∃ e, e ≠ 0 ∧ depositF a b n = (0, 0, e) := by
  unfold depositF
  rcases move_cases a b n with ⟨h1, h2, h3, h4, h5, e⟩ | ⟨e, h0, h⟩
  · rw [e]
    rcases does_cases a b (a - n) (b + n) 0 with ⟨k, _, f⟩ | f
    · exact .inl ⟨k, ((amt_iff _).1 h3).1, h4, h5, f⟩
    · exact .inr f
  · rw [h]
    rcases does_cases a b 0 0 e with ⟨k, hc, f⟩ | f
    · exact absurd hc h0
    · exact .inr f
theorem withdraw_cases (a b n : Int) : (Acc a b ∧ 0 ≤ n ∧ n ≤ b ∧ a + n ≤ 1152921504606846976 ∧ withdrawF a b n = (a + n, b - n, 0)) ∨ ∃ e, e ≠ 0 ∧ withdrawF a b n = (0, 0, e) := by
  unfold withdrawF
  rcases move_cases b a n with ⟨h1, h2, h3, h4, h5, e⟩ | ⟨e, h0, h⟩
  · rw [e]
    rcases does_cases a b (a + n) (b - n) 0 with ⟨k, _, f⟩ | f
    · exact .inl ⟨k, ((amt_iff _).1 h3).1, h4, h5, f⟩
    · exact .inr f
  · rw [h]
    rcases does_cases a b 0 0 e with ⟨k, hc, f⟩ | f
    · exact absurd hc h0
    · exact .inr f
theorem spend_cases (a b n : Int) : (Acc a b ∧ 0 ≤ n ∧ n ≤ a ∧ spendF a b n = (a - n, b, 0)) ∨ ∃ e, e ≠ 0 ∧ spendF a b n = (0, 0, e) := by
  unfold spendF
  rcases sub_cases a n with ⟨h1, h2, h3, e⟩ | ⟨h1, h2, h3, e⟩ | ⟨h1, e⟩ <;> rw [e] <;> simp only
  · rcases does_cases a b (a - n) b 0 with ⟨k, _, f⟩ | f
    · exact .inl ⟨k, ((amt_iff _).1 h2).1, h3, f⟩
    · exact .inr f
  · rcases does_cases a b 0 b 112 with ⟨k, hc, f⟩ | f
    · exact absurd hc (by decide)
    · exact .inr f
  · rcases does_cases a b 0 b 110 with ⟨k, hc, f⟩ | f
    · exact absurd hc (by decide)
    · exact .inr f
theorem earn_cases (a b n : Int) : (Acc a b ∧ 0 ≤ n ∧ a + n + b ≤ 1152921504606846976 ∧ earnF a b n = (a + n, b, 0)) ∨ ∃ e, e ≠ 0 ∧ earnF a b n = (0, 0, e) := by
  unfold earnF
  rcases add_cases a n with ⟨h1, h2, h3, e⟩ | ⟨h1, h2, h3, e⟩ | ⟨h1, e⟩ <;> rw [e] <;> simp only
  · rw [if_pos trivial]
    rcases add_cases (a + n) b with ⟨k1, k2, k3, f⟩ | ⟨k1, k2, k3, f⟩ | ⟨k1, f⟩ <;> rw [f] <;> simp only
    · rcases does_cases a b (a + n) b 0 with ⟨k, _, f⟩ | f
      · exact .inl ⟨k, ((amt_iff _).1 h2).1, k3, f⟩
      · exact .inr f
    · rcases does_cases a b (a + n) b 111 with ⟨k, hc, f⟩ | f
      · exact absurd hc (by decide)
      · exact .inr f
    · rcases does_cases a b (a + n) b 110 with ⟨k, hc, f⟩ | f
      · exact absurd hc (by decide)
      · exact .inr f
  · rw [if_neg (by decide)]
    rcases does_cases a b 0 b 111 with ⟨k, hc, f⟩ | f
    · exact absurd hc (by decide)
    · exact .inr f
  · rw [if_neg (by decide)]
    rcases does_cases a b 0 b 110 with ⟨k, hc, f⟩ | f
    · exact absurd hc (by decide)
    · exact .inr f
theorem shown_true : bazaarlaw13_shown.f = some true := by
  have e1 : depositF 5 2 4 = (1, 6, 0) := by decide
  have e2 : withdrawF 5 2 3 = (0, 0, 112) := by decide
  have e3 : earnF 5 2 1 = (6, 2, 0) := by decide
  simp [bazaarlaw13_shown.f, accounts_Deposit.f, accounts_Withdraw.f, accounts_Earn.f, e1, e2, e3]
end Go.Proofs.YtgnjodocggihoaaDoor.Pure
