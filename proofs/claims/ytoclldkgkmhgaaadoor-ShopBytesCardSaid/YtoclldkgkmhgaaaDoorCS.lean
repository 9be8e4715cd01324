/- Texts laid into one (merge.py): CS0, SNums, SP22, SParseW. -/
import Derived.Test.YtoclldkgkmhgaaaDoorKx0
import Derived.Test.YtoclldkgkmhgaaaDoorCM
import Derived.Test.YtoclldkgkmhgaaaDoorCG
import Derived.Test.YtoclldkgkmhgaaaDoorRng
import Derived.ScopeJumps
import Derived.WalkMore
import Derived.WalkKit
import Derived.OwnWalkIn
import Derived.TacticsInMore
import Derived.LoopNIn
import Derived.LoopIn
import Derived.Lib.Hide
import Derived.Lib.IndexBytes
import Derived.Deep.DeepCutAuto
import Derived.Shelf.Abstract
import Derived.Maps.AppendAt
namespace Go.Proofs.YtoclldkgkmhgaaaDoor.K
open Go.RowKit Go.Proofs.YtoclldkgkmhgaaaDoorW.PrintWords Go.Proofs.YtoclldkgkmhgaaaDoorW.PrintLast Go.Proofs.YtoclldkgkmhgaaaDoorW.PrintMore
attribute [local go_sem] max2_int min2_int max_two min_two max_three min_three max_four min_four   -- for this text's walks alone
set_option linter.unusedVariables false
set_option linter.unusedSimpArgs false

attribute [local go_sem high] eqA25
/-! ### mail_Right: function 20 -/
end Go.Proofs.YtoclldkgkmhgaaaDoor.K

namespace Go.Proofs.YtoclldkgkmhgaaaDoor.K
open Go.RowKit Go.MapKept Go.Proofs.YtoclldkgkmhgaaaDoorW.PrintWords Go.Proofs.YtoclldkgkmhgaaaDoorW.PrintLast Go.Proofs.YtoclldkgkmhgaaaDoorW.PrintMore
set_option linter.unusedVariables false
set_option linter.unusedSimpArgs false

theorem keepW {V V' : World} {g : Nat} {o : Obj} (hb : Below V.heap.size V V') (h : V.heap[g]? = some o) : V'.heap[g]? = some o := (hb.block _ (Array.getElem?_eq_some_iff.1 h).1).trans h
theorem R_set2 {w : World} {g base : Nat} {ok : Nat → Prop} {a b v : Value} {xs : List S25} (h : Kd.R k25 25 w base ok v xs) (hz : w.heap[g]? = some (.cells #[a, b] 38 (0, 0))) (r0 r1 : Value) :
    Kd.R k25 25 ((w.setCell ⟨g, 0, none⟩ r0).setCell ⟨g, 1, none⟩ r1) base ok v xs := by
  have ht : ∀ q, q ∈ 25 :: k25.E → q ≠ 38 := by
    intro q hq
    have : k25.E = [] := rfl
    rw [this] at hq
    simp at hq
    omega
  have hz1 : (w.setCell ⟨g, 0, none⟩ r0).heap[g]? = some (.cells #[r0, b] 38 (0, 0)) := by simpa using blk_set hz 0 r0
  exact Kd.R_set (Kd.R_set h hz ht 0 r0) hz1 ht 1 r1
--@DUP@
--@DUPEND@
end Go.Proofs.YtoclldkgkmhgaaaDoor.K

namespace Go.Proofs.YtoclldkgkmhgaaaDoor.K
open Go.RowKit Go.MapKept Go.Proofs.YtoclldkgkmhgaaaDoorW.PrintWords Go.Proofs.YtoclldkgkmhgaaaDoorW.PrintLast Go.Proofs.YtoclldkgkmhgaaaDoorW.PrintMore
set_option linter.unusedVariables false
set_option linter.unusedSimpArgs false

end Go.Proofs.YtoclldkgkmhgaaaDoor.K

namespace Go.Proofs.YtoclldkgkmhgaaaDoor.K
open Go.RowKit Go.MapKept Go.Proofs.YtoclldkgkmhgaaaDoorW.PrintWords Go.Proofs.YtoclldkgkmhgaaaDoorW.PrintLast Go.Proofs.YtoclldkgkmhgaaaDoorW.PrintMore
set_option linter.unusedVariables false
set_option linter.unusedSimpArgs false

end Go.Proofs.YtoclldkgkmhgaaaDoor.K

namespace Go.Proofs.YtoclldkgkmhgaaaDoor.K
open Go.RowKit Go.MapKept Go.Proofs.YtoclldkgkmhgaaaDoor.Rng Go.Proofs.YtoclldkgkmhgaaaDoorW.PrintWords Go.Proofs.YtoclldkgkmhgaaaDoorW.PrintLast Go.Proofs.YtoclldkgkmhgaaaDoorW.PrintMore
set_option linter.unusedVariables false
set_option linter.unusedSimpArgs false
attribute [local go_sem] Oper.semAt_some

/-- The first i bytes of l, as a number of 64 bits. -/
def num64 (l : List UInt8) : Nat → Int
  | 0 => 0
  | i + 1 => Go.bits .or .u64 (IntKind.u64.wrap (num64 l i * 256)) (IntKind.u64.wrap ((l.getD i 0).toNat : Int))

theorem at_of_lt (s : ByteArray) (j : Nat) (h : j < s.size) : s.data.toList.getD j 0 = s[j] := by
  rw [List.getD_eq_getElem?_getD, List.getElem?_eq_getElem (by simpa using h)]
  rfl

end Go.Proofs.YtoclldkgkmhgaaaDoor.K

namespace Go.Proofs.YtoclldkgkmhgaaaDoor.K
open Go.RowKit Go.MapKept Go.Proofs.YtoclldkgkmhgaaaDoor.Rng Go.Proofs.YtoclldkgkmhgaaaDoorW.PrintWords Go.Proofs.YtoclldkgkmhgaaaDoorW.PrintLast Go.Proofs.YtoclldkgkmhgaaaDoorW.PrintMore
set_option linter.unusedVariables false
set_option linter.unusedSimpArgs false
attribute [local go_sem] Oper.semAt_some

theorem four_step (W : World) (g : Nat) (v0 v1 v2 v3 : Value) : StepZ (fun b => b = g) W ((((W.setCell ⟨g, 0, none⟩ v0).setCell ⟨g, 1, none⟩ v1).setCell ⟨g, 2, none⟩ v2).setCell ⟨g, 3, none⟩ v3) := by
  have s0 : StepZ (fun b => b = g) W (W.setCell ⟨g, 0, none⟩ v0) := StepZ.setCell _ _ rfl
  have s1 : StepZ (fun b => b = g) (W.setCell ⟨g, 0, none⟩ v0) ((W.setCell ⟨g, 0, none⟩ v0).setCell ⟨g, 1, none⟩ v1) := StepZ.setCell _ _ rfl
  have s2 : StepZ (fun b => b = g) ((W.setCell ⟨g, 0, none⟩ v0).setCell ⟨g, 1, none⟩ v1) (((W.setCell ⟨g, 0, none⟩ v0).setCell ⟨g, 1, none⟩ v1).setCell ⟨g, 2, none⟩ v2) := StepZ.setCell _ _ rfl
  have s3 : StepZ (fun b => b = g) (((W.setCell ⟨g, 0, none⟩ v0).setCell ⟨g, 1, none⟩ v1).setCell ⟨g, 2, none⟩ v2) ((((W.setCell ⟨g, 0, none⟩ v0).setCell ⟨g, 1, none⟩ v1).setCell ⟨g, 2, none⟩ v2).setCell ⟨g, 3, none⟩ v3) := StepZ.setCell _ _ rfl
  exact ((s0.trans s1).trans s2).trans s3
theorem four_blk {W : World} {g t : Nat} {a b c d : Value} (h : W.heap[g]? = some (.cells #[a, b, c, d] t (0, 0))) (v0 v1 v2 v3 : Value) : ((((W.setCell ⟨g, 0, none⟩ v0).setCell ⟨g, 1, none⟩ v1).setCell ⟨g, 2, none⟩ v2).setCell ⟨g, 3, none⟩ v3).heap[g]? = some (.cells #[v0, v1, v2, v3] t (0, 0)) := by
  simpa using blk_set (blk_set (blk_set (blk_set h 0 v0) 1 v1) 2 v2) 3 v3

end Go.Proofs.YtoclldkgkmhgaaaDoor.K

namespace Go.Proofs.YtoclldkgkmhgaaaDoor.K
open Go.RowKit Go.MapKept Go.Proofs.YtoclldkgkmhgaaaDoorW.PrintWords Go.Proofs.YtoclldkgkmhgaaaDoorW.PrintLast Go.Proofs.YtoclldkgkmhgaaaDoorW.PrintMore
set_option linter.unusedVariables false

end Go.Proofs.YtoclldkgkmhgaaaDoor.K
