/- Plain facts on amounts. -/
import Derived.Test.YtgnjodocggihoaaDoorMMove
namespace Go.Proofs.YtgnjodocggihoaaDoor.Pure
open Go.RowKit Go.Proofs.YtgnjodocggihoaaDoor.K
set_option linter.unusedVariables false
set_option linter.unusedSimpArgs false
theorem amt_iff (n : Int) : amt n = true ↔ 0 ≤ n ∧ n ≤ 1152921504606846976 := by unfold amt; simp
theorem add_cases (a b : Int) : (amt a = true ∧ amt b = true ∧ a + b ≤ 1152921504606846976 ∧ addF a b = (a + b, 0)) ∨ (amt a = true ∧ amt b = true ∧ 1152921504606846976 < a + b ∧ addF a b = (0, 111)) ∨ (¬ (amt a = true ∧ amt b = true) ∧ addF a b = (0, 110)) := by
  unfold addF
  by_cases h : amt a = true ∧ amt b = true
  · rw [if_pos (by simp [h.1, h.2])]
    by_cases h2 : a + b ≤ 1152921504606846976
    · rw [if_pos h2]; exact .inl ⟨h.1, h.2, h2, rfl⟩
    · rw [if_neg h2]; exact .inr (.inl ⟨h.1, h.2, by omega, rfl⟩)
  · rw [if_neg (by simpa using h)]; exact .inr (.inr ⟨h, rfl⟩)
theorem sub_cases (a b : Int) : (amt a = true ∧ amt b = true ∧ b ≤ a ∧ subF a b = (a - b, 0)) ∨ (amt a = true ∧ amt b = true ∧ a < b ∧ subF a b = (0, 112)) ∨ (¬ (amt a = true ∧ amt b = true) ∧ subF a b = (0, 110)) := by
  unfold subF
  by_cases h : amt a = true ∧ amt b = true
  · rw [if_pos (by simp [h.1, h.2])]
    by_cases h2 : a < b
    · rw [if_pos h2]; exact .inr (.inl ⟨h.1, h.2, h2, rfl⟩)
    · rw [if_neg h2]; exact .inl ⟨h.1, h.2, by omega, rfl⟩
  · rw [if_neg (by simpa using h)]; exact .inr (.inr ⟨h, rfl⟩)
theorem move_cases (a b n : Int) : (amt a = true ∧ amt b = true ∧ amt n = true ∧ n ≤ a ∧ b + n ≤ 1152921504606846976 ∧ moveF a b n = (a - n, b + n, 0)) ∨ (∃ e, e ≠ 0 ∧ moveF a b n = (0, 0, e)) := by
  unfold moveF
  rcases sub_cases a n with ⟨h1, h2, h3, e⟩ | ⟨h1, h2, h3, e⟩ | ⟨h1, e⟩ <;> rw [e]
  · rw [if_pos rfl]
    rcases add_cases b n with ⟨k1, k2, k3, f⟩ | ⟨k1, k2, k3, f⟩ | ⟨k1, f⟩ <;> rw [f]
    · exact .inl ⟨h1, k1, h2, h3, k3, rfl⟩
    · exact .inr ⟨111, by decide, rfl⟩
    · exact .inr ⟨110, by decide, rfl⟩
  · exact .inr ⟨112, by decide, rfl⟩
  · exact .inr ⟨110, by decide, rfl⟩
theorem amt0 : amt 0 = true := by decide
theorem wf64 {n : Int} (h : (Lit.int .i64 n).wf = true) : -9223372036854775808 ≤ n ∧ n ≤ 9223372036854775807 := by
  simp [Lit.wf, IntKind.min, IntKind.max, IntKind.signed, IntKind.bits] at h
  omega
end Go.Proofs.YtgnjodocggihoaaDoor.Pure
