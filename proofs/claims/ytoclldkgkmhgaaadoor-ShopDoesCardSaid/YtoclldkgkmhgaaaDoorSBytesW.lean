/- The walk of shop.Bytes. -/
import Derived.Test.YtoclldkgkmhgaaaDoorSFields
import Derived.Test.YtoclldkgkmhgaaaDoorKx70
import Derived.Deep.DeepCutAuto
import Derived.Shelf.Abstract
import Derived.Maps.AppendAt
namespace Go.Proofs.YtoclldkgkmhgaaaDoor.K
open Go.RowKit Go.MapKept Go.Proofs.YtoclldkgkmhgaaaDoor.Rng Go.Proofs.YtoclldkgkmhgaaaDoorW.PrintWords Go.Proofs.YtoclldkgkmhgaaaDoorW.PrintLast Go.Proofs.YtoclldkgkmhgaaaDoorW.PrintMore
set_option linter.unusedVariables false
set_option linter.unusedSimpArgs false
attribute [local go_sem] Oper.semAt_some

theorem sfields_calls (w : World) : Calls Tryd.prog 67 #[] w fun e w' => e = .returned (.func (.func 86) #[] #[]) ∧ w' = w := by
  have hmf : ∀ (fn : Fn) (first cap : Array Value) (w : World), (Instr.makeFunc fn first cap).run Tryd.prog w = .ok (.func fn first cap) w := fun _ _ _ _ => rfl
  go_enter Tryd.func67, Tryd.ntmps67
  go_wp2
  go_ret
  exact ⟨rfl, rfl⟩

theorem at_next (k : Nat) (hk : k < 4) : atL k + szL k = atL (k + 1) ∧ atL (k + 1) ≤ 22 ∧ szL k ≤ 8 := by
  match k, hk with
  | 0, _ => decide
  | 1, _ => decide
  | 2, _ => decide
  | 3, _ => decide

end Go.Proofs.YtoclldkgkmhgaaaDoor.K
