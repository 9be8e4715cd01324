/- The iterator shop.fields: its contract. -/
import Derived.Test.YtoclldkgkmhgaaaDoorKx0
import Derived.Test.YtoclldkgkmhgaaaDoorMIs
import Derived.Test.YtoclldkgkmhgaaaDoorRng
import Derived.WalkKit
import Derived.OwnWalkIn
import Derived.TacticsInMore
import Derived.LoopNIn
import Derived.LoopIn
import Derived.Lib.Hide
namespace Go.Proofs.YtoclldkgkmhgaaaDoor.K
open Go.RowKit Go.MapKept Go.Proofs.YtoclldkgkmhgaaaDoor.Rng Go.Proofs.YtoclldkgkmhgaaaDoorW.PrintWords Go.Proofs.YtoclldkgkmhgaaaDoorW.PrintLast Go.Proofs.YtoclldkgkmhgaaaDoorW.PrintMore
set_option linter.unusedVariables false
set_option linter.unusedSimpArgs false
attribute [local go_sem] Oper.semAt_some

/-- Where field k begins, and how many bytes it has. -/
def atL (k : Nat) : Nat := [0, 4, 6, 14].getD k 22
def szL (k : Nat) : Nat := [4, 2, 8, 8].getD k 0

set_option maxRecDepth 100000 in
set_option maxHeartbeats 2000000 in
theorem sfields1 (F : Fence) (n : Nat) (hF : F.fn 86) (hro : F.round = none) (hn : 1 ≤ n) (w : World) :
    SeqL F n Tryd.prog 86 #[] (fun k => #[.int .i64 (atL k : Nat), .int .i64 (szL k : Nat)]) 4 (fun h k => k = h) (fun _ _ => False) w := by
  intro l J Jx W hW hJ hJx hY h0
  clear hW
  refine callsIn_of_wp Tryd.func86 rfl hF ?_ hro
  simp only [Tryd.ntmps86, List.size_toArray, List.length_cons, List.length_nil, Nat.reduceAdd, Nat.reduceSub, Array.replicate_succ, Array.replicate_zero, List.push_toArray, List.append_toArray, List.nil_append, List.cons_append]
  gi_wp2
  have e0 : (W.alloc (.cells #[.int .i64 4, .int .i64 2, .int .i64 8, .int .i64 8] 3)).heap[W.heap.size]? = some (.cells #[.int .i64 4, .int .i64 2, .int .i64 8, .int .i64 8] 3 (0, 0)) := (MapKept.heap_alloc W _).1
  have j0 := hJ 0 _ _ h0 (StepZ.alloc _ W (.cells #[.int .i64 4, .int .i64 2, .int .i64 8, .int .i64 8] 3))
  clear h0
  gi_loopw [2, 7] (fun a i wr => ∃ k : Nat, k ≤ 4 ∧ a = .int .i64 (atL k : Nat) ∧ i = .int .i64 k ∧ J k wr ∧ wr.heap[W.heap.size]? = some (.cells #[.int .i64 4, .int .i64 2, .int .i64 8, .int .i64 8] 3 (0, 0)))
    (fun _ i _ => 4 - (intOf i).toNat)
  case atStart => exact ⟨0, Nat.zero_le _, rfl, rfl, j0, e0⟩
  case round =>
    obtain ⟨k, hk, rfl, rfl, hJk, eb⟩ := hrel
    by_cases hlt : k < 4
    · have cz : wr.cell? ⟨W.heap.size, k, none⟩ = some (.int .i64 (szL k : Nat)) := (blk_cell eb k).trans (by
        match k, hlt with
        | 0, _ => rfl
        | 1, _ => rfl
        | 2, _ => rfl
        | 3, _ => rfl)
      have hat : (atL k : Int) + (szL k : Int) = (atL (k + 1) : Int) := by
        match k, hlt with
        | 0, _ => rfl
        | 1, _ => rfl
        | 2, _ => rfl
        | 3, _ => rfl
      have hat2 : (atL (k + 1) : Int) ≤ 22 := by
        match k, hlt with
        | 0, _ => decide
        | 1, _ => decide
        | 2, _ => decide
        | 3, _ => decide
      obtain ⟨fn, tmps, assign, body, hy, hR⟩ := hY k wr hlt hJk
      have HA := Lib.hid hat
      generalize hz0 : szL k = z at *
      gi_wp2
      refine hR.mono ?_
      rintro e W3 (⟨rfl, hJ3, hk3⟩ | ⟨rfl, hJx3, hk3⟩)
      · have p1 := hk3.at_ eb (fun h => h rfl)
        clear hk3 eb cz
        gi_wp2
        go_roundw
        case rel => exact ⟨k + 1, by omega, rfl, by simp, hJ3, p1⟩
        case measure => simp [intOf]; omega
      · gi_wp2
        refine bodyPost_ret (results_none rfl _ _ _) rfl ?_
        exact ⟨⟨_, rfl⟩, .inr ⟨k, hlt, hJx3⟩⟩
    · obtain rfl : k = 4 := by omega
      gi_wp2
      go_end0
      exact ⟨⟨_, rfl⟩, .inl hJk⟩
end Go.Proofs.YtoclldkgkmhgaaaDoor.K
