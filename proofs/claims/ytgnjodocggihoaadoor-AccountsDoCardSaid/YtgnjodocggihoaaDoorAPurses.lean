/- The iterator accounts.purses: its contract. -/
import Derived.Test.YtgnjodocggihoaaDoorKx0
import Derived.Test.YtgnjodocggihoaaDoorMIs
import Derived.Test.YtgnjodocggihoaaDoorRng
import Derived.WalkKit
import Derived.OwnWalkIn
import Derived.TacticsInMore
import Derived.LoopNIn
import Derived.LoopIn
import Derived.Lib.Hide
namespace Go.Proofs.YtgnjodocggihoaaDoor.K
open Go.RowKit Go.MapKept Go.Proofs.YtgnjodocggihoaaDoor.Rng Go.Proofs.YtgnjodocggihoaaDoorW.PrintWords Go.Proofs.YtgnjodocggihoaaDoorW.PrintLast Go.Proofs.YtgnjodocggihoaaDoorW.PrintMore
set_option linter.unusedVariables false
set_option linter.unusedSimpArgs false
attribute [local go_sem] Oper.semAt_some

/-- The block that a slice's address lies in. -/
def Holds (A : Option Addr) (b : Nat) : Prop := ∃ a, A = some a ∧ b = a.block

set_option maxRecDepth 100000 in
set_option maxHeartbeats 2000000 in
theorem purses1 (F : Fence) (n : Nat) (hF : F.fn 84) (hro : F.round = none) (hn : 1 ≤ n) (B : Nat) (A : Option Addr) (c : Nat) (xs : List S23) (w : World) (hlen : xs.length ≤ 100) (hc : xs.length ≤ c)
    (hB : w.heap[B]? = some (.cells #[.slice A xs.length c] 77 (0, 0))) (hC : Kd.C k23 w A xs.length xs) :
    SeqL F n Tryd.prog 84 #[.pointer (some ⟨B, 0, none⟩)] (fun k => #[.agg #[.int .i64 (xs.getD k z23).f0, .int .i64 (xs.getD k z23).f1]]) xs.length (fun _ b => b = B ∨ (Holds A b ∧ 0 < xs.length)) (fun _ _ => False) w := by
  intro l J Jx W hW hJ hJx hY h0
  have eB : W.heap[B]? = some (.cells #[.slice A xs.length c] 77 (0, 0)) := (hW.block _ (Array.getElem?_eq_some_iff.1 hB).1).trans hB
  have eC : Kd.C k23 W A xs.length xs := Kd.C_below hC hW
  have cB : W.cell? ⟨B, 0, none⟩ = some (.slice A xs.length c) := (blk_cell eB 0).trans rfl
  clear hB hC hW
  refine callsIn_of_wp Tryd.func84 rfl hF ?_ hro
  simp only [Tryd.ntmps84, List.size_toArray, List.length_cons, List.length_nil, Nat.reduceAdd, Nat.reduceSub, Array.replicate_succ, Array.replicate_zero, List.push_toArray, List.append_toArray, List.nil_append, List.cons_append]
  have hu23 := Tryd.underlying23
  have hu58 := Tryd.underlying58
  gi_wp2
  gi_loopw [7] (fun i wr => ∃ (k : Nat), k ≤ xs.length ∧ i = .int .i64 k ∧ J k wr ∧ Hid (∀ b, Holds A b → wr.heap[b]? = W.heap[b]?))
    (fun i _ => xs.length - (intOf i).toNat)
  case atStart => exact ⟨0, Nat.zero_le _, rfl, h0, (fun _ _ => rfl : ∀ b, Holds A b → _)⟩
  case round =>
    obtain ⟨k, hk, rfl, hJk, HS⟩ := hrel
    by_cases hlt : k < xs.length
    · obtain ⟨ad, rfl, r0, r1⟩ := at_T23 eC k (by omega) (by omega)
      have hblk := HS.out ad.block ⟨ad, rfl, rfl⟩
      have hpb : (ad.add (k * 2)).block = ad.block := by unfold Addr.add; split <;> rfl
      rw [Int.toNat_natCast] at r0 r1
      have q0 := (World.cell?_of_block (w := W) (w' := wr) (a := ad.add (k * 2)) (by rw [hpb]; exact hblk)).trans r0
      have q1 := (World.cell?_of_block (w := W) (w' := wr) (a := ⟨(ad.add (k * 2)).block, (ad.add (k * 2)).off + 1, none⟩) (by show wr.heap[(ad.add (k * 2)).block]? = _; rw [hpb]; exact hblk)).trans r1
      have hx : rd_T23 xs k = xs.getD k z23 := by unfold rd_T23; rw [Int.toNat_natCast]
      rw [hx] at q0 q1
      rw [hpb] at q1
      obtain ⟨fn, tmps, assign, body, hy, hR⟩ := hY k (wr.alloc (.cells #[.int .i64 (xs.getD k z23).f0, .int .i64 (xs.getD k z23).f1] 23)) hlt (hJ k _ _ hJk (StepZ.alloc _ _ _))
      have HQ := Aside0.mk hblk
      have hlw : ad.block < wr.heap.size := by
        have := cell_lt q0
        rw [hpb] at this
        exact this
      clear r0 r1 hx eC
      generalize xs.getD k z23 = z at *
      gi_wp2
      refine hR.mono ?_
      rintro e W3 (⟨rfl, hJ3, hk3⟩ | ⟨rfl, hJx3, hk3⟩)
      · have hb3 : W3.heap[ad.block]? = W.heap[ad.block]? := by
          have e1 : (wr.alloc (.cells #[.int .i64 z.f0, .int .i64 z.f1] 23)).heap[ad.block]? = wr.heap[ad.block]? := Below.heap_alloc _ _ _ hlw
          rw [← HQ.out, ← e1]
          exact hk3.block _ (by simp; omega) (fun h => h (.inr ⟨⟨ad, rfl, rfl⟩, by omega⟩))
        have HB3 := Aside0.mk hb3
        clear hb3 hk3 q0 q1 hblk
        gi_wp2
        go_roundw
        case rel => exact ⟨k + 1, by omega, by simp, hJ3, (by rintro b ⟨a, ha, rfl⟩; cases ha; exact HB3.out : ∀ b, Holds (some ad) b → _)⟩
        case measure => simp [intOf]; omega
      · gi_wp2
        refine bodyPost_ret (results_none rfl _ _ _) rfl ?_
        exact ⟨⟨_, rfl⟩, .inr ⟨k, hlt, hJx3⟩⟩
    · obtain rfl : k = xs.length := by omega
      gi_wp2
      go_end0
      exact ⟨⟨_, rfl⟩, .inl hJk⟩
end Go.Proofs.YtgnjodocggihoaaDoor.K
