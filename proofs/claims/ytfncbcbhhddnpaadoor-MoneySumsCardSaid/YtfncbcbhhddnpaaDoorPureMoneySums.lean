/- MoneySums's plain law. -/
import Derived.Test.YtfncbcbhhddnpaaDoorKx16
import Derived.Test.YtfncbcbhhddnpaaDoorPLib
namespace Go.Proofs.YtfncbcbhhddnpaaDoor.Pure
open Go.RowKit Go.Proofs.YtfncbcbhhddnpaaDoor.K
set_option linter.unusedVariables false
set_option linter.unusedSimpArgs false
theorem ref_add (a b : Int) : bazaarref11_Add.f 1 a b = some (addF a b) := by
  unfold bazaarref11_Add.f
  rcases add_cases a b with ⟨h1, h2, h3, e⟩ | ⟨h1, h2, h3, e⟩ | ⟨h1, e⟩ <;> rw [e] <;> simp only [amt_iff] at *
  · rw [if_neg (by omega), if_neg (by omega), if_neg (by omega), decide_eq_false (by omega), bazaarref11_Add.j0, if_neg (by simp), wrap64_small (by omega) (by omega), if_neg (by omega)]
  · rw [if_neg (by omega), if_neg (by omega), if_neg (by omega), decide_eq_false (by omega), bazaarref11_Add.j0, if_neg (by simp), wrap64_small (by omega) (by omega), if_pos (by omega)]
  · split
    · rw [bazaarref11_Add.j0, if_pos rfl]
    · split
      · rw [bazaarref11_Add.j0, if_pos rfl]
      · split
        · rw [bazaarref11_Add.j0, if_pos rfl]
        · rw [decide_eq_true (by omega), bazaarref11_Add.j0, if_pos rfl]
theorem ref_sub (a b : Int) : bazaarref11_Sub.f 1 a b = some (subF a b) := by
  unfold bazaarref11_Sub.f
  rcases sub_cases a b with ⟨h1, h2, h3, e⟩ | ⟨h1, h2, h3, e⟩ | ⟨h1, e⟩ <;> rw [e] <;> simp only [amt_iff] at *
  · rw [if_neg (by omega), if_neg (by omega), if_neg (by omega), decide_eq_false (by omega), bazaarref11_Sub.j0, if_neg (by simp), if_neg (by omega), wrap64_small (by omega) (by omega)]
  · rw [if_neg (by omega), if_neg (by omega), if_neg (by omega), decide_eq_false (by omega), bazaarref11_Sub.j0, if_neg (by simp), if_pos (by omega)]
  · split
    · rw [bazaarref11_Sub.j0, if_pos rfl]
    · split
      · rw [bazaarref11_Sub.j0, if_pos rfl]
      · split
        · rw [bazaarref11_Sub.j0, if_pos rfl]
        · rw [decide_eq_true (by omega), bazaarref11_Sub.j0, if_pos rfl]
theorem quot_lt {a b : Int} (hb : 0 < b) : a ≤ 1152921504606846976 / b ↔ a * b ≤ 1152921504606846976 := Int.le_ediv_iff_mul_le hb
theorem ref_mul (a b : Int) : bazaarref11_Mul.f 1 a b = some (mulF a b) := by
  unfold bazaarref11_Mul.f
  have q : ∀ b : Int, 0 < b → wrap64 (1152921504606846976 / b) = 1152921504606846976 / b := fun b hb => by
    have h1 : 0 ≤ (1152921504606846976 : Int) / b := Int.ediv_nonneg (by decide) (by omega)
    have h2 : (1152921504606846976 : Int) / b ≤ 1152921504606846976 := Int.ediv_le_self _ (by decide)
    exact wrap64_small (by omega) (by omega)
  rcases mul_cases a b with ⟨h1, h2, h3, e⟩ | ⟨h1, h2, h3, e⟩ | ⟨h1, e⟩ <;> rw [e] <;> simp only [amt_iff] at *
  · have h0 : 0 ≤ a * b := Int.mul_nonneg h1.1 h2.1
    rw [if_neg (by omega), if_neg (by omega), if_neg (by omega), decide_eq_false (by omega), bazaarref11_Mul.j0, if_neg (by simp), wrap64_small (n := a * b) (by omega) (by omega)]
    by_cases hb : b > 0
    · rw [if_pos hb, if_neg (by omega), q b hb, if_neg (by have := (quot_lt hb).2 h3; omega)]
    · rw [if_neg hb]
  · have hb : b > 0 := by
      rcases Int.lt_or_le 0 b with h | h
      · exact h
      · have : b = 0 := by omega
        subst this
        simp at h3
    rw [if_neg (by omega), if_neg (by omega), if_neg (by omega), decide_eq_false (by omega), bazaarref11_Mul.j0, if_neg (by simp), if_pos hb, if_neg (by omega), q b hb, if_pos (by
      rcases Int.lt_or_le (1152921504606846976 / b) a with h | h
      · exact h
      · have := (quot_lt hb).1 h
        omega)]
  · split
    · rw [bazaarref11_Mul.j0, if_pos rfl]
    · split
      · rw [bazaarref11_Mul.j0, if_pos rfl]
      · split
        · rw [bazaarref11_Mul.j0, if_pos rfl]
        · rw [decide_eq_true (by omega), bazaarref11_Mul.j0, if_pos rfl]
theorem ref_move (a b n : Int) : bazaarref11_Move.f 1 a b n = some (moveF a b n) := by
  simp only [bazaarref11_Move.f, ref_sub, ref_add, Option.bind_some]
  unfold moveF
  by_cases h : (subF a n).2 = 0
  · rw [if_pos h, if_pos h]
    by_cases h2 : (addF b n).2 = 0
    · rw [if_pos h2, if_pos h2]
    · rw [if_neg h2, if_neg h2]
  · rw [if_neg h, if_neg h]
theorem ref_right (a : Int) : bazaarref11_Right.f a = some (amt a) := right_amt a
theorem MoneySums (a b n : Int) (wa : (Lit.int .i64 a).wf = true) (wb : (Lit.int .i64 b).wf = true) (wn : (Lit.int .i64 n).wf = true) : bazaarlaw11_MoneySums.f 1 a b n = some true := by
  simp [bazaarlaw11_MoneySums.f, shown_true, money_Add.f, money_Sub.f, money_Mul.f, money_Move.f, ref_add, ref_sub, ref_mul, ref_move, right_amt, ref_right]
end Go.Proofs.YtfncbcbhhddnpaaDoor.Pure
