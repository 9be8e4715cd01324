/- Plain facts on amounts. -/
import Derived.Test.YtfncbcbhhddnpaaDoorKx6
namespace Go.Proofs.YtfncbcbhhddnpaaDoor.Pure
open Go.RowKit Go.Proofs.YtfncbcbhhddnpaaDoor.K
set_option linter.unusedVariables false
set_option linter.unusedSimpArgs false
theorem amt_iff (n : Int) : amt n = true ↔ 0 ≤ n ∧ n ≤ 1152921504606846976 := by unfold amt; simp
theorem add_cases (a b : Int) : (amt a = true ∧ amt b = true ∧ a + b ≤ 1152921504606846976 ∧ addF a b = (a + b, 0)) ∨ (amt a = true ∧ amt b = true ∧ 1152921504606846976 < a + b ∧ addF a b = (0, 111)) ∨ (¬ (amt a = true ∧ amt b = true) ∧ addF a b = (0, 110)) := by
  unfold addF
  by_cases h : amt a = true ∧ amt b = true
  · rw [if_pos (by simp [h.1, h.2])]
    by_cases h2 : a + b ≤ 1152921504606846976
    · rw [if_pos h2]; exact .inl ⟨h.1, h.2, h2, rfl⟩
    · rw [if_neg h2]; exact .inr (.inl ⟨h.1, h.2, by omega, rfl⟩)
  · rw [if_neg (by simpa using h)]; exact .inr (.inr ⟨h, rfl⟩)
theorem sub_cases (a b : Int) : (amt a = true ∧ amt b = true ∧ b ≤ a ∧ subF a b = (a - b, 0)) ∨ (amt a = true ∧ amt b = true ∧ a < b ∧ subF a b = (0, 112)) ∨ (¬ (amt a = true ∧ amt b = true) ∧ subF a b = (0, 110)) := by
  unfold subF
  by_cases h : amt a = true ∧ amt b = true
  · rw [if_pos (by simp [h.1, h.2])]
    by_cases h2 : a < b
    · rw [if_pos h2]; exact .inr (.inl ⟨h.1, h.2, h2, rfl⟩)
    · rw [if_neg h2]; exact .inl ⟨h.1, h.2, by omega, rfl⟩
  · rw [if_neg (by simpa using h)]; exact .inr (.inr ⟨h, rfl⟩)
theorem mul_cases (a b : Int) : (amt a = true ∧ amt b = true ∧ a * b ≤ 1152921504606846976 ∧ mulF a b = (a * b, 0)) ∨ (amt a = true ∧ amt b = true ∧ 1152921504606846976 < a * b ∧ mulF a b = (0, 111)) ∨ (¬ (amt a = true ∧ amt b = true) ∧ mulF a b = (0, 110)) := by
  unfold mulF
  by_cases h : amt a = true ∧ amt b = true
  · rw [if_pos (by simp [h.1, h.2])]
    by_cases h2 : a * b ≤ 1152921504606846976
    · rw [if_pos h2]; exact .inl ⟨h.1, h.2, h2, rfl⟩
    · rw [if_neg h2]; exact .inr (.inl ⟨h.1, h.2, by omega, rfl⟩)
  · rw [if_neg (by simpa using h)]; exact .inr (.inr ⟨h, rfl⟩)
theorem move_cases (a b n : Int) : (amt a = true ∧ amt b = true ∧ amt n = true ∧ n ≤ a ∧ b + n ≤ 1152921504606846976 ∧ moveF a b n = (a - n, b + n, 0)) ∨ (∃ e, e ≠ 0 ∧ moveF a b n = (0, 0, e)) := by
  unfold moveF
  rcases sub_cases a n with ⟨h1, h2, h3, e⟩ | ⟨h1, h2, h3, e⟩ | ⟨h1, e⟩ <;> rw [e]
  · rw [if_pos rfl]
    rcases add_cases b n with ⟨k1, k2, k3, f⟩ | ⟨k1, k2, k3, f⟩ | ⟨k1, f⟩ <;> rw [f]
    · exact .inl ⟨h1, k1, h2, h3, k3, rfl⟩
    · exact .inr ⟨111, by decide, rfl⟩
    · exact .inr ⟨110, by decide, rfl⟩
  · exact .inr ⟨112, by decide, rfl⟩
  · exact .inr ⟨110, by decide, rfl⟩
theorem amt0 : amt 0 = true := by decide
theorem amt_add (a b : Int) : amt (addF a b).1 = true := by
  rcases add_cases a b with ⟨h1, h2, h3, e⟩ | ⟨h1, h2, h3, e⟩ | ⟨h1, e⟩ <;> rw [e]
  · rw [amt_iff] at *; simp only; omega
  · exact amt0
  · exact amt0
theorem amt_sub (a b : Int) : amt (subF a b).1 = true := by
  rcases sub_cases a b with ⟨h1, h2, h3, e⟩ | ⟨h1, h2, h3, e⟩ | ⟨h1, e⟩ <;> rw [e]
  · rw [amt_iff] at *; simp only; omega
  · exact amt0
  · exact amt0
theorem amt_mul (a b : Int) : amt (mulF a b).1 = true := by
  rcases mul_cases a b with ⟨h1, h2, h3, e⟩ | ⟨h1, h2, h3, e⟩ | ⟨h1, e⟩ <;> rw [e]
  · rw [amt_iff] at *; exact ⟨Int.mul_nonneg h1.1 h2.1, h3⟩
  · exact amt0
  · exact amt0
theorem amt_move (a b n : Int) : amt (moveF a b n).1 = true ∧ amt (moveF a b n).2.1 = true := by
  rcases move_cases a b n with ⟨h1, h2, h3, h4, h5, e⟩ | ⟨e, _, h⟩
  · rw [e]; simp only [amt_iff] at *; omega
  · rw [h]; exact ⟨amt0, amt0⟩
theorem add_comm' (a b : Int) : addF a b = addF b a := by unfold addF; rw [Bool.and_comm, Int.add_comm]
theorem mul_comm' (a b : Int) : mulF a b = mulF b a := by unfold mulF; rw [Bool.and_comm, Int.mul_comm]
theorem shown_true : bazaarlaw11_shown.f = some true := by
  have e1 : addF 1152921504606846976 1 = (0, 111) := by decide
  have e2 : subF 1 2 = (0, 112) := by decide
  have e3 : moveF 5 1 2 = (3, 3, 0) := by decide
  simp [bazaarlaw11_shown.f, money_Add.f, money_Sub.f, money_Move.f, e1, e2, e3]
theorem wf64 {n : Int} (h : (Lit.int .i64 n).wf = true) : -9223372036854775808 ≤ n ∧ n ≤ 9223372036854775807 := by
  simp [Lit.wf, IntKind.min, IntKind.max, IntKind.signed, IntKind.bits] at h
  omega
end Go.Proofs.YtfncbcbhhddnpaaDoor.Pure
