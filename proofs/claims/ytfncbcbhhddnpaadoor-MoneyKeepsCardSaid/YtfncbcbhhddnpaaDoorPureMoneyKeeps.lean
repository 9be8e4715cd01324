/- MoneyKeeps's plain law. -/
import Derived.Test.YtfncbcbhhddnpaaDoorKx7
import Derived.Test.YtfncbcbhhddnpaaDoorPLib
namespace Go.Proofs.YtfncbcbhhddnpaaDoor.Pure
open Go.RowKit Go.Proofs.YtfncbcbhhddnpaaDoor.K
set_option linter.unusedVariables false
set_option linter.unusedSimpArgs false
theorem keeps_tail (a n : Int) : bazaarlaw11_MoneyKeeps.j0 1 a n true false = some true := by
  rw [bazaarlaw11_MoneyKeeps.j0, if_neg (by simp)]
  simp only [money_Add.f, money_Sub.f, Option.bind_some]
  rcases add_cases a n with ⟨h1, h2, h3, e⟩ | ⟨h1, h2, h3, e⟩ | ⟨h1, e⟩ <;> rw [e] <;> simp only
  · rcases sub_cases (a + n) n with ⟨k1, k2, k3, f⟩ | ⟨k1, k2, k3, f⟩ | ⟨k1, f⟩ <;> rw [f]
    · simp
    · rw [amt_iff] at *; omega
    · exact absurd ⟨by rw [amt_iff] at *; omega, h2⟩ k1
  · simp
  · simp
theorem MoneyKeeps (a b n : Int) (wa : (Lit.int .i64 a).wf = true) (wb : (Lit.int .i64 b).wf = true) (wn : (Lit.int .i64 n).wf = true) : bazaarlaw11_MoneyKeeps.f 1 a b n = some true := by
  simp only [bazaarlaw11_MoneyKeeps.f, shown_true, money_Move.f, Option.bind_some]
  rcases move_cases a b n with ⟨h1, h2, h3, h4, h5, e⟩ | ⟨e, h0, h⟩
  · rw [e]
    simp only [amt_iff] at h1 h2 h3
    rw [if_pos rfl, if_pos (by rw [show a - n + (b + n) = a + b from by omega]), if_neg (by simp only; omega)]
    have : decide ((a - n, b + n, (0 : Int)).2.1 < 0) = false := decide_eq_false (by simp only; omega)
    rw [this]
    exact keeps_tail a n
  · rw [h, if_neg h0]
    exact keeps_tail a n
end Go.Proofs.YtfncbcbhhddnpaaDoor.Pure
