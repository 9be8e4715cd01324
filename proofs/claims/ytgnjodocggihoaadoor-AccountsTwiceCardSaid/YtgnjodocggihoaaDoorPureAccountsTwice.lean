/- AccountsTwice's plain law. -/
import Derived.Test.YtgnjodocggihoaaDoorKx8
import Derived.Test.YtgnjodocggihoaaDoorPAcc
namespace Go.Proofs.YtgnjodocggihoaaDoor.Pure
open Go.RowKit Go.Proofs.YtgnjodocggihoaaDoor.K
set_option linter.unusedVariables false
set_option linter.unusedSimpArgs false
theorem AccountsTwice (a b n m : Int) (wa : (Lit.int .i64 a).wf = true) (wb : (Lit.int .i64 b).wf = true) (wn : (Lit.int .i64 n).wf = true) (wm : (Lit.int .i64 m).wf = true) : bazaarlaw13_AccountsTwice.f a b n m = some true := by
  simp only [bazaarlaw13_AccountsTwice.f, shown_true, accounts_Deposit.f, Option.bind_some]
  rcases deposit_cases a b n with ⟨A1, h1, h2, h3, e⟩ | ⟨e, h0, h⟩
  · rw [e]
    simp only
    rcases deposit_cases (a - n) (b + n) m with ⟨A2, k1, k2, k3, f⟩ | ⟨f, k0, k⟩
    · rw [f]
      simp only [if_true]
      have hA := A1.1
      rw [wrap64_small (n := n + m) (by omega) (by omega)]
      rcases deposit_cases a b (n + m) with ⟨A3, l1, l2, l3, g⟩ | ⟨g, l0, l⟩
      · rw [g]; simp; omega
      · exfalso
        have hs : (subF a (n + m)) = (a - (n + m), 0) := by
          rcases sub_cases a (n + m) with ⟨q1, q2, q3, q⟩ | ⟨q1, q2, q3, q⟩ | ⟨q1, q⟩
          · exact q
          · omega
          · exact absurd ⟨(amt_iff _).2 hA, (amt_iff _).2 (by omega)⟩ q1
        have ha : (addF b (n + m)) = (b + (n + m), 0) := by
          rcases add_cases b (n + m) with ⟨q1, q2, q3, q⟩ | ⟨q1, q2, q3, q⟩ | ⟨q1, q⟩
          · exact q
          · omega
          · exact absurd ⟨(amt_iff _).2 A1.2.1, (amt_iff _).2 (by omega)⟩ q1
        have hd : depositF a b (n + m) = (a - (n + m), b + (n + m), 0) := by
          rcases acc_or a b with ⟨_, z⟩ | ⟨z, _⟩
          · simp [depositF, moveF, doesF, hs, ha, z]
          · exact absurd A1 z
        rw [hd] at l
        simp at l
        exact l0 l.2.2.symm
    · rw [k]; simp [k0]
  · rw [h]; simp [h0]
end Go.Proofs.YtgnjodocggihoaaDoor.Pure
