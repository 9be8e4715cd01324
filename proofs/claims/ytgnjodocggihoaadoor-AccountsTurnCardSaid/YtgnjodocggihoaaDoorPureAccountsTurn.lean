/- AccountsTurn's plain law. -/
import Derived.Test.YtgnjodocggihoaaDoorKx10
import Derived.Test.YtgnjodocggihoaaDoorPAcc
namespace Go.Proofs.YtgnjodocggihoaaDoor.Pure
open Go.RowKit Go.Proofs.YtgnjodocggihoaaDoor.K
set_option linter.unusedVariables false
set_option linter.unusedSimpArgs false
theorem move_ok {a b n : Int} (ha : 0 ≤ a ∧ a ≤ 1152921504606846976) (hb : 0 ≤ b ∧ b ≤ 1152921504606846976) (h0 : 0 ≤ n) (h1 : n ≤ a) (h2 : b + n ≤ 1152921504606846976) : moveF a b n = (a - n, b + n, 0) := by
  have hs : subF a n = (a - n, 0) := by
    rcases sub_cases a n with ⟨q1, q2, q3, q⟩ | ⟨q1, q2, q3, q⟩ | ⟨q1, q⟩
    · exact q
    · omega
    · exact absurd ⟨(amt_iff _).2 ha, (amt_iff _).2 (by omega)⟩ q1
  have ht : addF b n = (b + n, 0) := by
    rcases add_cases b n with ⟨q1, q2, q3, q⟩ | ⟨q1, q2, q3, q⟩ | ⟨q1, q⟩
    · exact q
    · omega
    · exact absurd ⟨(amt_iff _).2 hb, (amt_iff _).2 (by omega)⟩ q1
  simp [moveF, hs, ht]
theorem acc_ok {a b : Int} (h : Acc a b) : (addF a b).2 = 0 := by
  rcases acc_or a b with ⟨_, z⟩ | ⟨z, _⟩
  · exact z
  · exact absurd h z
theorem withdraw_back {a b n : Int} (h : Acc a b) (h1 : 0 ≤ n) (h2 : n ≤ a) (h3 : b + n ≤ 1152921504606846976) : withdrawF (a - n) (b + n) n = (a, b, 0) := by
  have hm : moveF (b + n) (a - n) n = (b, a, 0) := by
    have := move_ok (a := b + n) (b := a - n) (n := n) (by have := h.2.1; omega) (by have := h.1; omega) h1 (by have := h.2.1; omega) (by have := h.1; omega)
    rw [this]
    congr 1
    · omega
    · congr 1; omega
  have hz := acc_ok (a := a - n) (b := b + n) ⟨by have := h.1; omega, by have := h.2.1; omega, by have := h.2.2; omega⟩
  simp [withdrawF, doesF, hm, hz]
theorem spend_back {a b n : Int} (h : Acc a b) (h1 : 0 ≤ n) (h3 : a + n + b ≤ 1152921504606846976) : spendF (a + n) b n = (a, b, 0) := by
  have hs : subF (a + n) n = (a, 0) := by
    rcases sub_cases (a + n) n with ⟨q1, q2, q3, q⟩ | ⟨q1, q2, q3, q⟩ | ⟨q1, q⟩
    · rw [q]; congr 1; omega
    · have := h.1; omega
    · exact absurd ⟨(amt_iff _).2 (by have := h.1; have := h.2.1; omega), (amt_iff _).2 (by have := h.1; have := h.2.1; omega)⟩ q1
  have hz := acc_ok (a := a + n) (b := b) ⟨by have := h.1; have := h.2.1; omega, h.2.1, h3⟩
  simp [spendF, doesF, hs, hz]
theorem AccountsTurn (a b n : Int) (wa : (Lit.int .i64 a).wf = true) (wb : (Lit.int .i64 b).wf = true) (wn : (Lit.int .i64 n).wf = true) : bazaarlaw13_AccountsTurn.f a b n = some true := by
  simp only [bazaarlaw13_AccountsTurn.f, shown_true, accounts_Deposit.f, accounts_Withdraw.f, accounts_Earn.f, accounts_Spend.f, Option.bind_some]
  have E : ∀ q : Option Bool, (if (earnF a b n).2.2 = 0 then (if (spendF (earnF a b n).1 (earnF a b n).2.1 n).2.2 = 0 then (some ((spendF (earnF a b n).1 (earnF a b n).2.1 n).1 == a && ((spendF (earnF a b n).1 (earnF a b n).2.1 n).2.1 == b))) else some false) else some true) = some true := by
    intro _
    rcases earn_cases a b n with ⟨A1, h1, h2, e⟩ | ⟨e, h0, h⟩
    · rw [e]
      simp only
      rw [spend_back A1 h1 h2]
      simp
    · rw [h, if_neg h0]
  rcases deposit_cases a b n with ⟨A1, h1, h2, h3, e⟩ | ⟨e, h0, h⟩
  · rw [e]
    simp only
    rw [withdraw_back A1 h1 h2 h3]
    simp only [if_true, beq_self_eq_true, Bool.and_self]
    exact E none
  · rw [h]
    simp only [if_true]
    rw [if_neg h0]
    exact E none
end Go.Proofs.YtgnjodocggihoaaDoor.Pure
