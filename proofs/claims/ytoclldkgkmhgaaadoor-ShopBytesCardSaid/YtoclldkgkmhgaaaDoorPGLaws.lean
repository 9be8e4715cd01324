/- Plain laws on goods: the reference's Same, and what is shown. -/
import Derived.Test.YtoclldkgkmhgaaaDoorPGoods
import Derived.Test.YtoclldkgkmhgaaaDoorKx17
namespace Go.Proofs.YtoclldkgkmhgaaaDoor.K
open Go.RowKit Go.Proofs.YtoclldkgkmhgaaaDoorW.PrintWords Go.Proofs.YtoclldkgkmhgaaaDoorW.PrintLast
set_option linter.unusedVariables false
set_option linter.unusedSimpArgs false

theorem same_l0 (xs : List S25) (hlen : xs.length ≤ 1000) : ∀ (k i : Nat), i ≤ xs.length → xs.length < k + i → bazaarref12_Same.l0 k xs xs (i : Int) = some true
  | 0, i, hi, hk => by omega
  | k + 1, i, hi, hk => by
    rw [bazaarref12_Same.l0]
    by_cases h : i < xs.length
    · have e1 : wrap64 ((i : Int) + 1) = ((i + 1 : Nat) : Int) := by unfold wrap64; omega
      rw [if_pos (by omega), if_pos (by omega), if_pos (by omega), e1, same_l0 xs hlen k (i + 1) (by omega) (by omega)]
      simp
    · rw [if_neg (by omega)]
theorem same_f (xs : List S25) (hlen : xs.length ≤ 1000) (k : Nat) (hk : 1001 ≤ k) : bazaarref12_Same.f k xs xs = some true := by
  unfold bazaarref12_Same.f
  rw [if_pos rfl]
  exact same_l0 xs hlen k 0 (by omega) (by omega)
end Go.Proofs.YtoclldkgkmhgaaaDoor.K
