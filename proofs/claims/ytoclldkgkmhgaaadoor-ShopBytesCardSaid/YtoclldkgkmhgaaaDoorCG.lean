/- Texts laid into one (merge.py): GPairs, GCount, GRight, GCmp, GPiles, GSearch, GAppend, GWith, GClone, GCut, GCut15, GOps, GOpen, SOpen. -/
import Derived.Test.YtoclldkgkmhgaaaDoorKx0
import Derived.Test.YtoclldkgkmhgaaaDoorCM
import Derived.Test.YtoclldkgkmhgaaaDoorRng
import Derived.WalkKit
import Derived.OwnWalkIn
import Derived.TacticsInMore
import Derived.LoopNIn
import Derived.LoopIn
import Derived.Lib.Hide
import Derived.Deep.DeepCutAuto
import Derived.Shelf.Abstract
import Derived.RangeFuncCalls
import Derived.StillTailTactics
import Derived.Lib.SliceRun
import Derived.Deep.RegionLaw
import Derived.Deep.SlicePairs
import Derived.ChangeArms
import Derived.Lib.SmallJoins
import Derived.Deep.Fields
namespace Go.Proofs.YtoclldkgkmhgaaaDoor.K
open Go.Proofs.YtoclldkgkmhgaaaDoor.K (alloc_old alloc2_new alloc2_fst cell_lt)
open Go.RowKit Go.MapKept Go.Proofs.YtoclldkgkmhgaaaDoor.Rng Go.Proofs.YtoclldkgkmhgaaaDoorW.PrintWords Go.Proofs.YtoclldkgkmhgaaaDoorW.PrintLast Go.Proofs.YtoclldkgkmhgaaaDoorW.PrintMore
set_option linter.unusedVariables false
set_option linter.unusedSimpArgs false
attribute [local go_sem] Oper.semAt_some

/-- The block that a slice's address lies in. -/
def HoldsA (A : Option Addr) (b : Nat) : Prop := ∃ a, A = some a ∧ b = a.block
/-- The stack ahead of the one of number k. -/
def prevS (xs : List S25) : Nat → S25
  | 0 => z25
  | k + 1 => xs.getD k z25

set_option maxRecDepth 100000 in
set_option maxHeartbeats 2000000 in
theorem pairs1 (F : Fence) (n : Nat) (hF : F.fn 96) (hro : F.round = none) (hn : 1 ≤ n) (B : Nat) (A : Option Addr) (c : Nat) (xs : List S25) (w : World) (hlen : xs.length ≤ 1000) (hc : xs.length ≤ c)
    (hB : w.heap[B]? = some (.cells #[.slice A xs.length c] 39 (0, 0))) (hC : Kd.C k25 w A xs.length xs) :
    SeqL F n Tryd.prog 96 #[.pointer (some ⟨B, 0, none⟩)] (fun k => #[.agg #[.int .u16 (prevS xs k).f0, .int .i64 (prevS xs k).f1], .agg #[.int .u16 (xs.getD k z25).f0, .int .i64 (xs.getD k z25).f1]]) xs.length (fun h b => b = B ∨ (HoldsA A b ∧ 0 < xs.length) ∨ h ≤ b) (fun h b => b = h) w := by
  intro l J Jx W hW hJ hJx hY h0
  have eB : W.heap[B]? = some (.cells #[.slice A xs.length c] 39 (0, 0)) := (hW.block _ (Array.getElem?_eq_some_iff.1 hB).1).trans hB
  have eC : Kd.C k25 W A xs.length xs := Kd.C_below hC hW
  have cB : W.cell? ⟨B, 0, none⟩ = some (.slice A xs.length c) := (blk_cell eB 0).trans rfl
  clear hB hC hW
  refine callsIn_of_wp Tryd.func96 rfl hF ?_ hro
  simp only [Tryd.ntmps96, List.size_toArray, List.length_cons, List.length_nil, Nat.reduceAdd, Nat.reduceSub, Array.replicate_succ, Array.replicate_zero, List.push_toArray, List.append_toArray, List.nil_append, List.cons_append]
  have hu42 := Tryd.underlying25
  have eO := (MapKept.heap_alloc W (.cells #[.int .u16 0, .int .i64 0] 25)).1
  have hsB : B < W.heap.size := (Array.getElem?_eq_some_iff.1 eB).1
  gi_wp2
  gi_loopw [8] (fun i wr => ∃ (k : Nat), k ≤ xs.length ∧ i = .int .i64 k ∧ J k wr ∧ Hid (∀ b, HoldsA A b → 0 < xs.length → wr.heap[b]? = W.heap[b]?) ∧ Hid (wr.heap[W.heap.size]? = some (.cells #[.int .u16 (prevS xs k).f0, .int .i64 (prevS xs k).f1] 25 (0, 0))))
    (fun i _ => xs.length - (intOf i).toNat)
  case atStart =>
    exact ⟨0, Nat.zero_le _, rfl, hJ 0 _ _ h0 (StepZ.alloc _ _ _), (fun b ⟨a, ha, hb⟩ h1 => Below.heap_alloc _ _ _ (by
      obtain ⟨ad, e, r0, _⟩ := at_T25 eC 0 (by omega) (by omega)
      rw [ha] at e; cases e
      have := cell_lt r0
      have hpb : (a.add ((0 : Int).toNat * 2)).block = a.block := by unfold Addr.add; split <;> rfl
      rw [hpb] at this
      omega) : ∀ b, HoldsA A b → 0 < xs.length → _), eO⟩
  case round =>
    obtain ⟨k, hk, rfl, hJk, HS, HO⟩ := hrel
    by_cases hlt : k < xs.length
    · obtain ⟨ad, rfl, r0, r1⟩ := at_T25 eC k (by omega) (by omega)
      have hblk := HS.out ad.block ⟨ad, rfl, rfl⟩ (by omega)
      have hpb : (ad.add (k * 2)).block = ad.block := by unfold Addr.add; split <;> rfl
      rw [Int.toNat_natCast] at r0 r1
      have q0 := (World.cell?_of_block (w := W) (w' := wr) (a := ad.add (k * 2)) (by rw [hpb]; exact hblk)).trans r0
      have q1 := (World.cell?_of_block (w := W) (w' := wr) (a := ⟨(ad.add (k * 2)).block, (ad.add (k * 2)).off + 1, none⟩) (by show wr.heap[(ad.add (k * 2)).block]? = _; rw [hpb]; exact hblk)).trans r1
      have hx : rd_T25 xs k = xs.getD k z25 := by unfold rd_T25; rw [Int.toNat_natCast]
      rw [hx] at q0 q1
      rw [hpb] at q1
      have hoL : W.heap.size < wr.heap.size := (Array.getElem?_eq_some_iff.1 HO.out).1
      have o0 := (blk_cell HO.out 0).trans rfl
      have o1 := (blk_cell HO.out 1).trans rfl
      obtain ⟨fn, tmps, assign, body, hy, hR⟩ := hY k (wr.alloc (.cells #[.int .u16 (xs.getD k z25).f0, .int .i64 (xs.getD k z25).f1] 25)) hlt (hJ k _ _ hJk (StepZ.alloc _ _ _))
      have HQ := Aside0.mk hblk
      have hlw : ad.block < wr.heap.size := by
        have := cell_lt q0
        rw [hpb] at this
        exact this
      have hnx : prevS xs (k + 1) = xs.getD k z25 := rfl
      have HNX := Aside0.mk hnx
      have hAW : ad.block < W.heap.size := by
        have := cell_lt r0
        rw [hpb] at this
        exact this
      clear r0 r1 hx eC hnx
      generalize xs.getD k z25 = z at *
      generalize prevS xs k = y at *
      gi_wp2
      refine hR.mono ?_
      rintro e W3 (⟨rfl, hJ3, hk3⟩ | ⟨rfl, hJx3, hk3⟩)
      · have hb3 : W3.heap[ad.block]? = W.heap[ad.block]? := by
          have e1 : (wr.alloc (.cells #[.int .u16 z.f0, .int .i64 z.f1] 25)).heap[ad.block]? = wr.heap[ad.block]? := Below.heap_alloc _ _ _ hlw
          rw [← HQ.out, ← e1]
          exact hk3.block _ (by simp; omega) (fun h => h (.inr (.inl ⟨⟨ad, rfl, rfl⟩, by omega⟩)))
        have hn3 : W3.heap[wr.heap.size]? = some (.cells #[.int .u16 z.f0, .int .i64 z.f1] 25 (0, 0)) := hk3.at_ (MapKept.heap_alloc wr _).1 (fun h => h (.inr (.inr (by show W.heap.size ≤ wr.heap.size; omega))))
        have ho3 : W3.heap[W.heap.size]? = some (.cells #[.int .u16 y.f0, .int .i64 y.f1] 25 (0, 0)) := hk3.at_ (alloc_old _ HO.out) (fun h => h (.inr (.inr (Nat.le_refl _))))
        have n0 := (blk_cell hn3 0).trans rfl
        have n1 := (blk_cell hn3 1).trans rfl
        have p0 := (blk_cell ho3 0).trans rfl
        have p1 := (blk_cell ho3 1).trans rfl
        have f0 := blk_frozen ho3 0
        have f1 := blk_frozen ho3 1
        have hs3 := blk_set (by simpa using blk_set ho3 0 (.int .u16 z.f0) : (W3.setCell ⟨W.heap.size, 0, none⟩ (.int .u16 z.f0)).heap[W.heap.size]? = some (.cells #[.int .u16 z.f0, .int .i64 y.f1] 25 (0, 0))) 1 (.int .i64 z.f1)
        have HB3 := Aside0.mk hb3
        have HS3 := Aside0.mk hs3
        clear hb3 hk3 q0 q1 hblk o0 o1 hs3 hn3 ho3
        gi_wp2
        go_roundw
        case rel =>
          refine ⟨k + 1, by omega, by simp, hJ _ _ _ hJ3 ((StepZ.setCell (Z := fun b => b = W.heap.size) _ _ rfl).trans (StepZ.setCell (Z := fun b => b = W.heap.size) _ _ rfl)), (by
            rintro b ⟨a, ha, rfl⟩ h1
            cases ha
            rw [Below.heap_setCell _ _ _ _ (by show ad.block ≠ W.heap.size; omega), Below.heap_setCell _ _ _ _ (by show ad.block ≠ W.heap.size; omega)]
            exact HB3.out : ∀ b, HoldsA (some ad) b → 0 < xs.length → _), (by rw [HNX.out]; exact Lib.hid (by simpa using HS3.out))⟩
        case measure => simp [intOf]; omega
      · gi_wp2
        refine bodyPost_ret (results_none rfl _ _ _) rfl ?_
        exact ⟨⟨_, rfl⟩, .inr ⟨k, hlt, hJx3⟩⟩
    · obtain rfl : k = xs.length := by omega
      gi_wp2
      go_end0
      exact ⟨⟨_, rfl⟩, .inl hJk⟩
end Go.Proofs.YtoclldkgkmhgaaaDoor.K

namespace Go.Proofs.YtoclldkgkmhgaaaDoor.K
open Go.Proofs.YtoclldkgkmhgaaaDoor.K (alloc_old alloc2_new alloc2_fst cell_lt below_two Laid_below Laid)
open Go.RowKit Go.MapKept Go.Proofs.YtoclldkgkmhgaaaDoor.Rng Go.Proofs.YtoclldkgkmhgaaaDoorW.PrintWords Go.Proofs.YtoclldkgkmhgaaaDoorW.PrintLast Go.Proofs.YtoclldkgkmhgaaaDoorW.PrintMore
set_option linter.unusedVariables false
set_option linter.unusedSimpArgs false
attribute [local go_sem] Oper.semAt_some

theorem pairs_calls (A : Option Addr) (n c : Nat) (w : World) :
    Calls Tryd.prog 87 #[.slice A n c] w fun e w' => e = .returned (.func (.func 96) #[] #[.pointer (some ⟨w.heap.size, 0, none⟩)]) ∧ w' = w.alloc (.cells #[.slice A n c] 39) := by
  have hmf : ∀ (fn : Fn) (first cap : Array Value) (w : World), (Instr.makeFunc fn first cap).run Tryd.prog w = .ok (.func fn first cap) w := fun _ _ _ _ => rfl
  go_enter Tryd.func87, Tryd.ntmps87
  go_wp2
  go_ret
  exact ⟨rfl, rfl⟩

/-- How many there are of an item. -/
def countS (it : Int) : List S25 → Int
  | [] => 0
  | s :: l => if s.f0 = it then s.f1 else countS it l
theorem countS_drop (it : Int) (xs : List S25) (k : Nat) (hk : k < xs.length) : countS it (xs.drop k) = if (xs.getD k z25).f0 = it then (xs.getD k z25).f1 else countS it (xs.drop (k + 1)) := by
  rw [List.drop_eq_getElem_cons hk, countS, List.getD_eq_getElem?_getD, List.getElem?_eq_getElem hk]
  rfl

theorem holdsA_lt {A : Option Addr} {xs : List S25} {w : World} (hC : Kd.C k25 w A xs.length xs) : ∀ b, HoldsA A b → 0 < xs.length → b < w.heap.size := by
  rintro b ⟨a, rfl, rfl⟩ h0
  obtain ⟨ad, ha, r0, _⟩ := at_T25 hC 0 (by omega) (by omega)
  cases ha
  have := cell_lt r0
  have hpb : (a.add ((0 : Int).toNat * 2)).block = a.block := by unfold Addr.add; split <;> rfl
  rw [hpb] at this
  exact this
theorem below_three (w : World) (X Y Z : Obj) : Below w.heap.size w (((w.alloc X).alloc Y).alloc Z) := below_alloc (below_two w X Y) Z
theorem alloc3_new (w : World) (X Y Z : Obj) : (((w.alloc X).alloc Y).alloc Z).heap[w.heap.size + 2]? = some Z := by simpa using (MapKept.heap_alloc ((w.alloc X).alloc Y) Z).1

set_option maxRecDepth 100000 in
set_option maxHeartbeats 4000000 in
theorem count_walk (A : Option Addr) (c : Nat) (xs : List S25) (it : Int) (w : World) (hC : Kd.C k25 w A xs.length xs) (hc : xs.length ≤ c) (hlen : xs.length ≤ 1000) (r : Int) (hr : countS it xs = r) :
    Calls Tryd.prog 76 #[.slice A xs.length c, .int .u16 it] w fun e w' => e = .returned (.int .i64 r) ∧ Below w.heap.size w w' := by
  have HR := Aside0.mk hr
  have HN := Aside0.mk pairs_calls
  have HCC := Aside0.mk hC
  have HAA := Aside0.mk (holdsA_lt hC)
  clear hr hC
  refine calls_of_wp_marks Tryd.func76 rfl ?_
  simp only [Tryd.ntmps76, List.size_toArray, List.length_cons, List.length_nil, Nat.reduceAdd, Nat.reduceSub, Array.replicate_succ, Array.replicate_zero, List.push_toArray, List.append_toArray, List.nil_append, List.cons_append]
  go_wp2_with (go_at_call 87; refine (HN.out _ _ _ _).mono ?_; rintro e w2 ⟨rfl, rfl⟩)
  have hXi := alloc_old (.cells #[.slice A xs.length c] 39) (alloc2_fst w (.cells #[.int .u16 it] 23) (.cells #[.int .i64 0] 2))
  have hXr := alloc_old (.cells #[.slice A xs.length c] 39) (alloc2_new w (.cells #[.int .u16 it] 23) (.cells #[.int .i64 0] 2))
  have hXs := alloc3_new w (.cells #[.int .u16 it] 23) (.cells #[.int .i64 0] 2) (.cells #[.slice A xs.length c] 39)
  have hXB := below_three w (.cells #[.int .u16 it] 23) (.cells #[.int .i64 0] 2) (.cells #[.slice A xs.length c] 39)
  have hXsz : (((w.alloc (.cells #[.int .u16 it] 23)).alloc (.cells #[.int .i64 0] 2)).alloc (.cells #[.slice A xs.length c] 39)).heap.size = w.heap.size + 3 := by simp
  generalize ((w.alloc (.cells #[.int .u16 it] 23)).alloc (.cells #[.int .i64 0] 2)).alloc (.cells #[.slice A xs.length c] 39) = X at *
  have hseq := pairs1 Fence.wide 9 trivial rfl (by omega) (w.heap.size + 1 + 1) A c xs X hlen hc hXs (Kd.C_below HCC.out hXB)
  have HXE := Aside0.mk hXsz
  obtain ⟨I, hIe⟩ : ∃ I : Nat → World → Prop, I = fun k W => k ≤ xs.length ∧ countS it (xs.drop k) = countS it xs ∧ W.heap[w.heap.size]? = some (.cells #[.int .u16 it] 23 (0, 0)) ∧ W.heap[w.heap.size + 1]? = some (.cells #[.int .i64 0] 2 (0, 0)) ∧ Below w.heap.size w W := ⟨_, rfl⟩
  obtain ⟨Ix, hXe⟩ : ∃ Ix : Code → Nat → World → Prop, Ix = fun c k W => c = .ret ∧ countS it xs = (xs.getD k z25).f1 ∧ W.heap[w.heap.size + 1]? = some (.cells #[.int .i64 (xs.getD k z25).f1] 2 (0, 0)) ∧ Below w.heap.size w W := ⟨_, rfl⟩
  refine wp_rangeFunc_L (w := X) (gf := 96) rfl (enters_of Tryd.func96 (by kernel_rfl) rfl) hseq (Below.refl _ _) (fun _ => rfl) (fun b hb => by
      have hb' : b = X.heap.size + 2 := hb
      omega) (fun b hb => by
      rcases hb with e | ⟨e, h0⟩ | e
      · omega
      · have := HAA.out b e h0; omega
      · omega) I Ix ?hI ?hIx ?h0 ?hround ?hdone ?hstop
  case hI =>
    subst hIe
    rintro k A' B ⟨hk, hal, hb1, hb2, hbel⟩ hst
    have hz : ∀ j, j < w.heap.size + 2 → ¬ (j = X.heap.size + 2 ∨ j = X.heap.size + 1) := fun j hj => by have := HXE.out; rintro (h | h) <;> omega
    exact ⟨hk, hal, hst.at_ hb1 (hz _ (by omega)), hst.at_ hb2 (hz _ (by omega)), hbel.trans (hst.below (by have := hbel.size; omega) (fun j hj => hz j (by omega)))⟩
  case hIx =>
    subst hXe
    rintro c k A' B ⟨hk, hz', hb1, hbel⟩ hst
    have hz : ∀ j, j < w.heap.size + 2 → ¬ (j = X.heap.size + 2 ∨ j = X.heap.size + 1) := fun j hj => by have := HXE.out; rintro (h | h) <;> omega
    exact ⟨hk, hz', hst.at_ hb1 (hz _ (by omega)), hbel.trans (hst.below (by have := hbel.size; omega) (fun j hj => hz j (by omega)))⟩
  case h0 =>
    subst hIe
    exact ⟨by omega, by simp, alloc_old _ (alloc_old _ hXi), alloc_old _ (alloc_old _ hXr), below_alloc (below_alloc hXB _) _⟩
  case hdone =>
    subst hIe hXe
    rintro W ⟨_, hal, hb1, hb2, hbel⟩ hsz hD
    have c1 : W.cell? ⟨w.heap.size + 1, 0, none⟩ = some (.int .i64 0) := (blk_cell hb2 0).trans rfl
    have f1 := blk_frozen hb2 0
    rw [List.drop_length] at hal
    obtain rfl : r = 0 := HR.out.symm.trans (hal.symm.trans rfl)
    clear hb1 hseq hXi hXr hXs
    go_wp2
    try rw [Exit.noGoto_ret]
    have hq : (W.setCell ⟨w.heap.size + 1, 0, none⟩ (.int .i64 0)).heap[w.heap.size + 1]? = some (.cells #[.int .i64 0] 2 (0, 0)) := by simpa using blk_set hb2 0 (.int .i64 0)
    have hq2 := (StepZ.putObj (Z := fun b => b = X.heap.size) (W.setCell ⟨w.heap.size + 1, 0, none⟩ (.int .i64 0)) (.deferred none) rfl).at_ hq (by show w.heap.size + 1 ≠ X.heap.size; have := HXE.out; omega)
    have hcl := (blk_cell hq2 0).trans rfl
    refine leave_marked ((Below.heap_setCell W ⟨w.heap.size + 1, 0, none⟩ (.int .i64 0) X.heap.size (by show X.heap.size ≠ w.heap.size + 1; have := HXE.out; omega)).trans hD) (v := .int .i64 0) (by simp [results, Tryd.results76, go_sem, hcl]) ⟨rfl, ?_⟩
    exact (below_set hbel (by show w.heap.size ≤ w.heap.size + 1; omega) (j := 0) (v := .int .i64 0)).trans ((StepZ.putObj (Z := fun b => b = X.heap.size) _ (.deferred none) rfl).below (by have := hbel.size; simp; omega) (fun k hk => by have := HXE.out; omega))
  case hstop =>
    subst hIe hXe
    rintro c k W hk ⟨rfl, hz, hb1, hbel⟩ hsz hD
    have c1 : W.cell? ⟨w.heap.size + 1, 0, none⟩ = some (.int .i64 (xs.getD k z25).f1) := (blk_cell hb1 0).trans rfl
    obtain rfl : r = _ := HR.out.symm.trans hz
    have HB1 := Aside0.mk hb1
    clear hb1 hseq hXi hXr hXs
    go_wp2
    try rw [Exit.noGoto_ret]
    have hq2 := (StepZ.putObj (Z := fun b => b = X.heap.size) W (.deferred none) rfl).at_ HB1.out (by show w.heap.size + 1 ≠ X.heap.size; have := HXE.out; omega)
    have hcl := (blk_cell hq2 0).trans rfl
    refine leave_marked hD (v := .int .i64 (xs.getD k z25).f1) (by simp [results, Tryd.results76, go_sem, hcl]) ⟨rfl, ?_⟩
    exact hbel.trans ((StepZ.putObj (Z := fun b => b = X.heap.size) _ (.deferred none) rfl).below (by have := hbel.size; omega) (fun k hk => by have := HXE.out; omega))
  case hround =>
    intro k W hk hi hsz
    clear hseq hXi hXr hXs
    rw [hIe] at hi
    have HIE := Aside0.mk hIe
    have HXX := Aside0.mk hXe
    clear hIe hXe
    have HCD := Aside0.mk (countS_drop it xs k hk)
    obtain ⟨z, hzz⟩ : ∃ z, xs.getD k z25 = z := ⟨_, rfl⟩
    obtain ⟨y, hyy⟩ : ∃ y, prevS xs k = y := ⟨_, rfl⟩
    rw [show (#[.agg #[.int .u16 (prevS xs k).f0, .int .i64 (prevS xs k).f1], .agg #[.int .u16 (xs.getD k z25).f0, .int .i64 (xs.getD k z25).f1]] : Array Value) = #[.agg #[.int .u16 y.f0, .int .i64 y.f1], .agg #[.int .u16 z.f0, .int .i64 z.f1]] from by rw [hzz, hyy]]
    have HZZ := Aside0.mk hzz
    clear hzz hyy
    have hu42 := Tryd.underlying25
    gi_wp2
    refine ⟨StepZ.alloc _ _ _, ?_⟩
    intro Wb hst
    obtain ⟨hk2, hal, hb1, hb2, hbel⟩ := hi
    have hp := hst.at_ (MapKept.heap_alloc W (.cells #[.int .u16 z.f0, .int .i64 z.f1] 25)).1 (by show W.heap.size ≠ X.heap.size + 1; omega)
    replace hb1 := hst.at_ (alloc_old (.cells #[.int .u16 z.f0, .int .i64 z.f1] 25) hb1) (by show w.heap.size ≠ X.heap.size + 1; have := HXE.out; omega)
    replace hb2 := hst.at_ (alloc_old (.cells #[.int .u16 z.f0, .int .i64 z.f1] 25) hb2) (by show w.heap.size + 1 ≠ X.heap.size + 1; have := HXE.out; omega)
    replace hbel : Below w.heap.size w Wb := (below_alloc hbel (.cells #[.int .u16 z.f0, .int .i64 z.f1] 25)).trans (hst.below (by have := hbel.size; simp; omega) (fun j hj => by show j ≠ X.heap.size + 1; have := HXE.out; omega))
    have p0 := (blk_cell hp 0).trans rfl
    have p1 := (blk_cell hp 1).trans rfl
    have i0 := (blk_cell hb1 0).trans rfl
    have r0 := (blk_cell hb2 0).trans rfl
    have rf := blk_frozen hb2 0
    have hlt1 := (Array.getElem?_eq_some_iff.1 hb2).1
    have HB1 := Aside0.mk hb1
    have HB2 := Aside0.mk hb2
    have HBEL := Aside0.mk hbel
    have HAL := Aside0.mk hal
    clear hst hb1 hb2 hbel hal hp hXsz
    by_cases hz0 : z.f0 = it
    · gi_wp2
      have ST : StepZ (fun b => ¬((b = w.heap.size + 1 + 1 ∨ HoldsA A b ∧ 0 < xs.length ∨ X.heap.size + 2 ≤ b) ∨ b = X.heap.size ∨ b = X.heap.size + 1)) Wb (Wb.setCell ⟨w.heap.size + 1, 0, none⟩ (.int .i64 z.f1)) := StepZ.setCell _ _ (by
        show ¬ ((w.heap.size + 1 = w.heap.size + 1 + 1 ∨ HoldsA A (w.heap.size + 1) ∧ 0 < xs.length ∨ X.heap.size + 2 ≤ w.heap.size + 1) ∨ w.heap.size + 1 = X.heap.size ∨ w.heap.size + 1 = X.heap.size + 1)
        rintro ((e | ⟨e, e0⟩ | e) | e | e)
        · omega
        · have := HAA.out _ e e0; omega
        · have := HXE.out; omega
        · have := HXE.out; omega
        · have := HXE.out; omega)
      refine ⟨ST, ?_⟩
      rw [HXX.out]
      have hcd := HCD.out
      rw [HAL.out, HZZ.out, if_pos hz0] at hcd
      exact ⟨rfl, by rw [HZZ.out]; exact hcd, by rw [HZZ.out]; simpa using blk_set HB2.out 0 (.int .i64 z.f1), below_set HBEL.out (by show w.heap.size ≤ w.heap.size + 1; omega)⟩
    · gi_wp2
      refine ⟨StepZ.refl _ _, ?_⟩
      rw [HIE.out]
      have hcd := HCD.out
      rw [HAL.out, HZZ.out, if_neg hz0] at hcd
      exact ⟨by omega, hcd.symm, HB1.out, HB2.out, HBEL.out⟩

end Go.Proofs.YtoclldkgkmhgaaaDoor.K

namespace Go.Proofs.YtoclldkgkmhgaaaDoor.K
open Go.Proofs.YtoclldkgkmhgaaaDoor.K (alloc_old alloc2_new alloc2_fst cell_lt below_two Laid_below Laid C_of_block)
open Go.RowKit Go.MapKept Go.Proofs.YtoclldkgkmhgaaaDoor.Rng Go.Proofs.YtoclldkgkmhgaaaDoorW.PrintWords Go.Proofs.YtoclldkgkmhgaaaDoorW.PrintLast Go.Proofs.YtoclldkgkmhgaaaDoorW.PrintMore
set_option linter.unusedVariables false
set_option linter.unusedSimpArgs false
attribute [local go_sem] Oper.semAt_some

/-- May a stack have so many? -/
def amtS (n : Int) : Bool := (1 ≤ n && n ≤ 1152921504606846976 : Bool)
theorem are_one (a : Int) : goods_are.f 4 [a] = some (amtS a) := by
  have e0 : rd [a] 0 = a := rfl
  have e1 : wrap64 1 = 1 := by first | rfl | (unfold wrap64; omega) | simp [wrap64]
  have e2 : (([a] : List Int).length : Int) = 1 := rfl
  by_cases h0 : a = 0
  · subst h0
    simp [goods_are.f, goods_are.l0, e0, e2, amtS]
  · by_cases h1 : a ≥ 0
    · by_cases h2 : a ≤ 1152921504606846976
      · simp [goods_are.f, goods_are.l0, e0, e1, e2, amtS, money_Right.f, h0, h1, h2]
        omega
      · simp [goods_are.f, goods_are.l0, e0, e1, e2, amtS, money_Right.f, h0, h1, h2]
    · simp [goods_are.f, goods_are.l0, e0, e1, e2, amtS, money_Right.f, h0, h1]
      omega
theorem one_are (a : Int) (W : World) (hL : Laid W) (g : Nat) (hb : W.heap[g]? = some (.cells #[.int .i64 a] 2 (0, 0))) :
    Calls Tryd.prog 74 #[.slice (some ⟨g, 0, none⟩) 1 1] W fun e w' => e = .returned (.bool (amtS a)) ∧ Below W.heap.size W w' :=
  goods_are.calls 4 _ 1 [a] _ W hL (C_of_block (Kd.int .i64) (fun x => [.int .i64 x]) hb [a] (fun _ => rfl) (fun _ => rfl) rfl (by simp)) (Nat.le_refl _) (are_one a)

/-- Is a stack wrong behind the one ahead of it? -/
def badS (y z : S25) : Bool := !amtS z.f1 || (!(y.f0 == 0 && y.f1 == 0) && decide (y.f0 ≥ z.f0))
def okTo (xs : List S25) (k : Nat) : Bool := (List.range k).all fun j => !badS (prevS xs j) (xs.getD j z25)
def rightS (xs : List S25) : Bool := decide (xs.length ≤ 20) && okTo xs xs.length
theorem okTo_succ (xs : List S25) (k : Nat) : okTo xs (k + 1) = (okTo xs k && !badS (prevS xs k) (xs.getD k z25)) := by
  unfold okTo
  rw [List.range_succ, List.all_append]
  simp

theorem keep_past {W w3 : World} {g : Nat} {o X : Obj} (h : W.heap[g]? = some o) (hb : Below (W.alloc X).heap.size (W.alloc X) w3) : w3.heap[g]? = some o :=
  (hb.block _ (by have := (Array.getElem?_eq_some_iff.1 h).1; simp; omega)).trans (alloc_old _ h)
attribute [local go_sem high] eqA25
set_option maxRecDepth 100000 in
set_option maxHeartbeats 4000000 in
theorem right_walk (A : Option Addr) (c : Nat) (xs : List S25) (w : World) (hL : Laid w) (hC : Kd.C k25 w A xs.length xs) (hc : xs.length ≤ c) (hlen : xs.length ≤ 1000) (r : Bool) (hr : rightS xs = r) :
    Calls Tryd.prog 70 #[.slice A xs.length c] w fun e w' => e = .returned (.bool r) ∧ Below w.heap.size w w' := by
  have HL := Aside0.mk hL
  have HR := Aside0.mk hr
  have HN := Aside0.mk pairs_calls
  have HCC := Aside0.mk hC
  have HAA := Aside0.mk (holdsA_lt hC)
  clear hr hC hL
  have hu42 := Tryd.underlying25
  refine calls_of_wp_marks Tryd.func70 rfl ?_
  simp only [Tryd.ntmps70, List.size_toArray, List.length_cons, List.length_nil, Nat.reduceAdd, Nat.reduceSub, Array.replicate_succ, Array.replicate_zero, List.push_toArray, List.append_toArray, List.nil_append, List.cons_append]
  go_wp2_with fail
  go_step3
  go_wp2_with fail
  go_step3
  go_wp2_with (go_at_call 87; refine (HN.out _ _ _ _).mono ?_; rintro e w2 ⟨rfl, rfl⟩)
  obtain ⟨b20, h20⟩ : ∃ b, decide ((xs.length : Int) ≤ 20) = b := ⟨_, rfl⟩
  rw [h20]
  have H20 := Aside0.mk h20
  clear h20
  have hXi := alloc_old (.cells #[.slice A xs.length c] 39) (alloc2_fst w (.cells #[.bool b20] 4) (.cells #[.int .u16 0, .int .i64 0] 25))
  have hXr := alloc_old (.cells #[.slice A xs.length c] 39) (alloc2_new w (.cells #[.bool b20] 4) (.cells #[.int .u16 0, .int .i64 0] 25))
  have hXs := alloc3_new w (.cells #[.bool b20] 4) (.cells #[.int .u16 0, .int .i64 0] 25) (.cells #[.slice A xs.length c] 39)
  have hXB := below_three w (.cells #[.bool b20] 4) (.cells #[.int .u16 0, .int .i64 0] 25) (.cells #[.slice A xs.length c] 39)
  have hXsz : (((w.alloc (.cells #[.bool b20] 4)).alloc (.cells #[.int .u16 0, .int .i64 0] 25)).alloc (.cells #[.slice A xs.length c] 39)).heap.size = w.heap.size + 3 := by simp
  generalize ((w.alloc (.cells #[.bool b20] 4)).alloc (.cells #[.int .u16 0, .int .i64 0] 25)).alloc (.cells #[.slice A xs.length c] 39) = X at *
  have hseq := pairs1 Fence.wide 9 trivial rfl (by omega) (w.heap.size + 1 + 1) A c xs X hlen hc hXs (Kd.C_below HCC.out hXB)
  have HXE := Aside0.mk hXsz
  obtain ⟨I, hIe⟩ : ∃ I : Nat → World → Prop, I = fun k W => k ≤ xs.length ∧ okTo xs k = true ∧ W.heap[w.heap.size]? = some (.cells #[.bool b20] 4 (0, 0)) ∧ W.heap[w.heap.size + 1]? = some (.cells #[.int .u16 0, .int .i64 0] 25 (0, 0)) ∧ Below w.heap.size w W := ⟨_, rfl⟩
  obtain ⟨Ix, hXe⟩ : ∃ Ix : Code → Nat → World → Prop, Ix = fun c k W => c = .exit 0 ∧ badS (prevS xs k) (xs.getD k z25) = true ∧ W.heap[w.heap.size]? = some (.cells #[.bool false] 4 (0, 0)) ∧ Below w.heap.size w W := ⟨_, rfl⟩
  refine wp_rangeFunc_L (w := X) (gf := 96) rfl (enters_of Tryd.func96 (by kernel_rfl) rfl) hseq (Below.refl _ _) (fun _ => rfl) (fun b hb => by
      have hb' : b = X.heap.size + 2 := hb
      omega) (fun b hb => by
      rcases hb with e | ⟨e, h0⟩ | e
      · omega
      · have := HAA.out b e h0; omega
      · omega) I Ix ?hI ?hIx ?h0 ?hround ?hdone ?hstop
  case hI =>
    subst hIe
    rintro k A' B ⟨hk, hal, hb1, hb2, hbel⟩ hst
    have hz : ∀ j, j < w.heap.size + 2 → ¬ (j = X.heap.size + 2 ∨ j = X.heap.size + 1) := fun j hj => by have := HXE.out; rintro (h | h) <;> omega
    exact ⟨hk, hal, hst.at_ hb1 (hz _ (by omega)), hst.at_ hb2 (hz _ (by omega)), hbel.trans (hst.below (by have := hbel.size; omega) (fun j hj => hz j (by omega)))⟩
  case hIx =>
    subst hXe
    rintro c k A' B ⟨hk, hz', hb1, hbel⟩ hst
    have hz : ∀ j, j < w.heap.size + 2 → ¬ (j = X.heap.size + 2 ∨ j = X.heap.size + 1) := fun j hj => by have := HXE.out; rintro (h | h) <;> omega
    exact ⟨hk, hz', hst.at_ hb1 (hz _ (by omega)), hbel.trans (hst.below (by have := hbel.size; omega) (fun j hj => hz j (by omega)))⟩
  case h0 =>
    subst hIe
    exact ⟨by omega, by simp [okTo], alloc_old _ (alloc_old _ hXi), alloc_old _ (alloc_old _ hXr), below_alloc (below_alloc hXB _) _⟩
  case hdone =>
    subst hIe hXe
    rintro W ⟨_, hal, hb1, hb2, hbel⟩ hsz hD
    have c1 : W.cell? ⟨w.heap.size, 0, none⟩ = some (.bool b20) := (blk_cell hb1 0).trans rfl
    obtain rfl : r = b20 := HR.out.symm.trans (by
      unfold rightS
      rw [hal, Bool.and_true, ← H20.out]
      exact decide_eq_decide.2 (by omega))
    clear hb1 hb2 hseq hXi hXr hXs
    go_wp2
    try rw [Exit.noGoto_ret]
    refine leave_marked hD (v := .bool r) (by simp [results, Tryd.results70, go_sem]) ⟨rfl, ?_⟩
    exact hbel.trans ((StepZ.putObj (Z := fun b => b = X.heap.size) _ (.deferred none) rfl).below (by have := hbel.size; omega) (fun k hk => by have := HXE.out; omega))
  case hstop =>
    subst hIe hXe
    rintro c k W hk ⟨rfl, hz, hb1, hbel⟩ hsz hD
    have c1 : W.cell? ⟨w.heap.size, 0, none⟩ = some (.bool false) := (blk_cell hb1 0).trans rfl
    obtain rfl : r = false := HR.out.symm.trans (by
      unfold rightS okTo
      rw [Bool.and_eq_false_iff]
      refine .inr (List.all_eq_false.2 ⟨k, List.mem_range.2 hk, ?_⟩)
      rw [hz]
      simp)
    clear hb1 hseq hXi hXr hXs
    go_wp2
    try rw [Exit.noGoto_ret]
    refine leave_marked hD (v := .bool false) (by simp [results, Tryd.results70, go_sem]) ⟨rfl, ?_⟩
    exact hbel.trans ((StepZ.putObj (Z := fun b => b = X.heap.size) _ (.deferred none) rfl).below (by have := hbel.size; omega) (fun k hk => by have := HXE.out; omega))
  case hround =>
    intro k W hk hi hsz
    clear hseq hXi hXr hXs
    rw [hIe] at hi
    have HIE := Aside0.mk hIe
    have HXX := Aside0.mk hXe
    clear hIe hXe
    have HOS := Aside0.mk (okTo_succ xs k)
    obtain ⟨z, hzz⟩ : ∃ z, xs.getD k z25 = z := ⟨_, rfl⟩
    obtain ⟨y, hyy⟩ : ∃ y, prevS xs k = y := ⟨_, rfl⟩
    rw [show (#[.agg #[.int .u16 (prevS xs k).f0, .int .i64 (prevS xs k).f1], .agg #[.int .u16 (xs.getD k z25).f0, .int .i64 (xs.getD k z25).f1]] : Array Value) = #[.agg #[.int .u16 y.f0, .int .i64 y.f1], .agg #[.int .u16 z.f0, .int .i64 z.f1]] from by rw [hzz, hyy]]
    have HZZ := Aside0.mk hzz
    have HYY := Aside0.mk hyy
    clear hzz hyy
    gi_wp2
    refine ⟨(StepZ.alloc _ _ _).trans (StepZ.alloc _ _ _), ?_⟩
    intro Wb hst
    obtain ⟨hk2, hal, hb1, hb2, hbel⟩ := hi
    have hq := hst.at_ (alloc2_fst W (.cells #[.int .u16 y.f0, .int .i64 y.f1] 25) (.cells #[.int .u16 z.f0, .int .i64 z.f1] 25)) (by show W.heap.size ≠ X.heap.size + 1; omega)
    have hp := hst.at_ (alloc2_new W (.cells #[.int .u16 y.f0, .int .i64 y.f1] 25) (.cells #[.int .u16 z.f0, .int .i64 z.f1] 25)) (by show W.heap.size + 1 ≠ X.heap.size + 1; omega)
    replace hb1 := hst.at_ (alloc_old (.cells #[.int .u16 z.f0, .int .i64 z.f1] 25) (alloc_old (.cells #[.int .u16 y.f0, .int .i64 y.f1] 25) hb1)) (by show w.heap.size ≠ X.heap.size + 1; have := HXE.out; omega)
    replace hb2 := hst.at_ (alloc_old (.cells #[.int .u16 z.f0, .int .i64 z.f1] 25) (alloc_old (.cells #[.int .u16 y.f0, .int .i64 y.f1] 25) hb2)) (by show w.heap.size + 1 ≠ X.heap.size + 1; have := HXE.out; omega)
    replace hbel : Below w.heap.size w Wb := (below_alloc (below_alloc hbel (.cells #[.int .u16 y.f0, .int .i64 y.f1] 25)) (.cells #[.int .u16 z.f0, .int .i64 z.f1] 25)).trans (hst.below (by have := hbel.size; simp; omega) (fun j hj => by show j ≠ X.heap.size + 1; have := HXE.out; omega))
    have HB1 := Aside0.mk hb1
    have HB2 := Aside0.mk hb2
    have HQ := Aside0.mk hq
    have HP := Aside0.mk hp
    have HBEL := Aside0.mk hbel
    have HAL := Aside0.mk hal
    have p0 := (blk_cell hp 0).trans rfl
    have p1 := (blk_cell hp 1).trans rfl
    have HO := Aside0.mk (fun (V : World) (hb : Below w.heap.size w V) (g : Nat) hg => one_are z.f1 V (Laid_below HL.out hb) g hg)
    clear hst hb1 hb2 hbel hal hq hp hXsz
    have hF60 : Fence.wide.fn 74 := trivial
    have d1 : 1 ≤ 8 := by decide
    have keepZ : ∀ {A' B : World}, StepZ (fun b => b = w.heap.size) A' B → StepZ (fun b => ¬ ((b = w.heap.size + 1 + 1 ∨ HoldsA A b ∧ 0 < xs.length ∨ X.heap.size + 2 ≤ b) ∨ b = X.heap.size ∨ b = X.heap.size + 1)) A' B := fun h => h.mono (fun b _ hb => by
      subst hb
      rintro ((e | ⟨e, e0⟩ | e) | e | e)
      · omega
      · have := HAA.out _ e e0; omega
      · have := HXE.out; omega
      · have := HXE.out; omega
      · have := HXE.out; omega)
    have KZ := Aside0.mk @keepZ
    clear keepZ
    obtain ⟨am, ham⟩ : ∃ b, amtS z.f1 = b := ⟨_, rfl⟩
    obtain ⟨y0, hy0⟩ : ∃ b, (y.f0 == 0 && y.f1 == 0) = b := ⟨_, rfl⟩
    obtain ⟨gg, hgg⟩ : ∃ b, decide (y.f0 ≥ z.f0) = b := ⟨_, rfl⟩
    have HBAD := Aside0.mk (show badS y z = (!am || (!y0 && gg)) from by unfold badS; rw [ham, hy0, hgg])
    rw [ham] at HO
    clear ham
    have fin0 : ∀ w3 : World, Below Wb.heap.size Wb w3 → badS y z = false → StepZ (fun b => ¬ ((b = w.heap.size + 1 + 1 ∨ HoldsA A b ∧ 0 < xs.length ∨ X.heap.size + 2 ≤ b) ∨ b = X.heap.size ∨ b = X.heap.size + 1)) Wb w3 ∧ I (k + 1) w3 := fun w3 h3 hbad => by
      refine ⟨KZ.out (StepZ.of_below h3), ?_⟩
      rw [HIE.out]
      have hk' : ∀ {g : Nat} {o : Obj}, Wb.heap[g]? = some o → w3.heap[g]? = some o := fun hg => (h3.block _ (Array.getElem?_eq_some_iff.1 hg).1).trans hg
      exact ⟨by omega, by rw [HOS.out, HAL.out, HYY.out, HZZ.out, hbad]; rfl, hk' HB1.out, hk' HB2.out, below_then HBEL.out HBEL.out.size h3⟩
    have fin1 : ∀ w3 : World, Below Wb.heap.size Wb w3 → badS y z = true → StepZ (fun b => ¬ ((b = w.heap.size + 1 + 1 ∨ HoldsA A b ∧ 0 < xs.length ∨ X.heap.size + 2 ≤ b) ∨ b = X.heap.size ∨ b = X.heap.size + 1)) Wb (w3.setCell ⟨w.heap.size, 0, none⟩ (.bool false)) ∧ Ix (.exit 0) k (w3.setCell ⟨w.heap.size, 0, none⟩ (.bool false)) := fun w3 h3 hbad => by
      refine ⟨KZ.out ((StepZ.of_below h3).trans (StepZ.setCell (Z := fun b => b = w.heap.size) _ _ rfl)), ?_⟩
      rw [HXX.out]
      have hk' : ∀ {g : Nat} {o : Obj}, Wb.heap[g]? = some o → w3.heap[g]? = some o := fun hg => (h3.block _ (Array.getElem?_eq_some_iff.1 hg).1).trans hg
      exact ⟨rfl, by rw [HYY.out, HZZ.out]; exact hbad, by simpa using blk_set (hk' HB1.out) 0 (.bool false), below_set (below_then HBEL.out HBEL.out.size h3) (Nat.le_refl _)⟩
    have F0 := Aside0.mk fin0
    have F1 := Aside0.mk fin1
    clear fin0 fin1
    cases am <;> cases y0 <;> cases gg <;>
    gi_wp2_with (gi_at_call 74; refine (CallsIn.inRound _ (callsIn_wide.2 (HO.out _ (below_alloc HBEL.out _) _ (MapKept.heap_alloc _ _).1))).mono ?_; rintro e w3 ⟨rfl, hb3⟩; have hb1' := keep_past HB1.out hb3; have hb2' := keep_past HB2.out hb3; have hq' := keep_past HQ.out hb3; have hp' := keep_past HP.out hb3; have b0 := (blk_cell hb1' 0).trans rfl; have f3 := blk_frozen hb1' 0; have n0 := (blk_cell hb2' 0).trans rfl; have n1 := (blk_cell hb2' 1).trans rfl; have q0 := (blk_cell hq' 0).trans rfl; have q1 := (blk_cell hq' 1).trans rfl; have s0 := (blk_cell hp' 0).trans rfl; have s1 := (blk_cell hp' 1).trans rfl; have HB3 := Aside0.mk (below_then (below_alloc (Below.refl _ _) _) (by simp) hb3 : Below Wb.heap.size Wb w3); clear hb1' hb2' hq' hp' hb3)
    all_goals first
      | exact F0.out _ HB3.out (by rw [HBAD.out]; rfl)
      | exact F1.out _ HB3.out (by rw [HBAD.out]; rfl)

end Go.Proofs.YtoclldkgkmhgaaaDoor.K

namespace Go.Proofs.YtoclldkgkmhgaaaDoor.K
open Go.Proofs.YtoclldkgkmhgaaaDoor.K (alloc_old alloc2_new alloc2_fst cell_lt below_two Laid_below Laid C_of_block)
open Go.RowKit Go.MapKept Go.Proofs.YtoclldkgkmhgaaaDoorW.PrintWords Go.Proofs.YtoclldkgkmhgaaaDoorW.PrintLast Go.Proofs.YtoclldkgkmhgaaaDoorW.PrintMore
set_option linter.unusedVariables false
set_option linter.unusedSimpArgs false

theorem isNaN_calls (x : Int) (w : World) : Calls Tryd.prog 104 #[.int .u16 x] w fun e w' => e = .returned (.bool false) ∧ w' = w := by
  go_enter Tryd.func104, Tryd.ntmps104
  go_wp2
  go_ret
  exact ⟨by simp, rfl⟩

/-- The order of two numbers. -/
def cmpI (x y : Int) : Int := if x < y then -1 else if y < x then 1 else 0
theorem compare_calls (x y : Int) (w : World) : Calls Tryd.prog 101 #[.int .u16 x, .int .u16 y] w fun e w' => e = .returned (.int .i64 (cmpI x y)) ∧ w' = w := by
  have HN := Aside0.mk isNaN_calls
  obtain ⟨r, hr⟩ : ∃ r, cmpI x y = r := ⟨_, rfl⟩
  rw [hr]
  have HR := Aside0.mk hr
  clear hr
  go_enter Tryd.func101, Tryd.ntmps101
  go_wp2_with (go_at_call 104; refine (HN.out _ _).mono ?_; rintro e w1 ⟨rfl, rfl⟩)
  all_goals go_ret
  all_goals refine ⟨?_, rfl⟩
  all_goals (congr 2; rw [← HR.out]; unfold cmpI; simp_all <;> omega)

theorem item_calls (a b : Int) (w : World) : Calls Tryd.prog 93 #[.agg #[.int .u16 a, .int .i64 b]] w fun e w' => e = .returned (.int .u16 a) ∧ Below w.heap.size w w' := by
  have hu95 := Tryd.underlying115
  go_enter Tryd.func93, Tryd.ntmps93
  go_wp2
  go_ret
  exact ⟨rfl, below_alloc (Below.refl _ _) _⟩

theorem cmp1_calls (a b n : Int) (B : Nat) (w : World) (hB : w.heap[B]? = some (.cells #[.func (.func 93) #[] #[]] 118 (0, 0))) :
    Calls Tryd.prog 100 #[.agg #[.int .u16 a, .int .i64 b], .int .u16 n, .pointer (some ⟨B, 0, none⟩)] w fun e w' => e = .returned (.int .i64 (cmpI a n)) ∧ Below w.heap.size w w' := by
  have hu95 := Tryd.underlying115
  have HI := Aside0.mk item_calls
  have HC := Aside0.mk compare_calls
  have c0 := (blk_cell (alloc_old (.cells #[.int .u16 a, .int .i64 b] 115) hB) 0).trans rfl
  go_enter Tryd.func100, Tryd.ntmps100
  go_wp2_with (first
    | (go_at_call 93; refine (HI.out _ _ _).mono ?_; rintro e w1 ⟨rfl, hb1⟩)
    | (go_at_call 101; refine (HC.out _ _ _).mono ?_; rintro e w2 ⟨rfl, rfl⟩))
  go_ret
  exact ⟨rfl, below_then (below_alloc (Below.refl _ _) _) (by simp) hb1⟩
end Go.Proofs.YtoclldkgkmhgaaaDoor.K

namespace Go.Proofs.YtoclldkgkmhgaaaDoor.K
open Go.RowKit Go.Proofs.YtoclldkgkmhgaaaDoorW.PrintWords Go.Proofs.YtoclldkgkmhgaaaDoorW.PrintLast Go.Proofs.YtoclldkgkmhgaaaDoorW.PrintMore
attribute [local go_sem] max2_int min2_int max_two min_two max_three min_three max_four min_four   -- for this text's walks alone
set_option linter.unusedVariables false
set_option linter.unusedSimpArgs false

/-! ### goods_piles: function 92 -/
def goods_piles.l0 : Nat → List (S25) → List (S25) → Int → Int → Option ((List (S25)))
  | 0, _, _, _, _ => none
  | k + 1, x3, x6, x7, x8 => if x8 < x7 then (if 0 ≤ x8 then (if x8 < (x6.length : Int) then (if x3.length < 8796093022208 then (goods_piles.l0 k (x3 ++ [(⟨(rd_T25 x6 x8).f0, (rd_T25 x6 x8).f1⟩ : S25)]) x6 x7 (wrap64 (x8 + 1))) else (none)) else (none)) else (none)) else (some x3)
def goods_piles.f (k : Nat) (l0 : List (S25)) : Option ((List (S25))) := goods_piles.l0 k ([] : List (S25)) l0 (l0.length : Int) 0
set_option maxHeartbeats 8000000 in
set_option maxRecDepth 100000 in
theorem goods_piles.calls (k : Nat) (A0 : Option Addr) (c0 : Nat) (l0 : List (S25)) (r : List (S25)) (w : World) (hL : Laid w) (hr0 : Kd.C k25 w A0 l0.length l0) (hc0 : l0.length ≤ c0) (h : goods_piles.f k l0 = some r) :
    Calls Tryd.prog 92 #[.slice A0 l0.length c0] w fun e w' => ∃ v0_ : Value, e = .returned (v0_) ∧ Kd.R k25 115 w' w.heap.size (fun _ => True) v0_ r ∧ Below w.heap.size w w' := by
  have hu25 := Tryd.underlying25
  have HLD := Aside0.mk hL
  clear hL
  have HR0 := Aside0.mk hr0
  have HC0 := Aside0.mk hc0
  clear hr0 hc0
  have HB := Aside0.mk (Below.refl w.heap.size w)
  have H : (goods_piles.l0 k ([] : List (S25)) l0 (l0.length : Int) 0) = some r := h
  clear h
  have H' := Aside0.mk H
  clear H
  go_enter Tryd.func92, Tryd.ntmps92
  go_wp2
  go_loopg [3, 8] k (fun kq v3 v8 w' => ∃ (x3_1 : List (S25)) (x8_1 : Int), v8 = .int .i64 x8_1 ∧ Aside0 (goods_piles.l0 kq x3_1 l0 (l0.length : Int) x8_1 = some r) ∧ Aside0 (kq ≤ k) ∧ Aside0 (Kd.R k25 115 w' w.heap.size (fun _ => True) v3 x3_1) ∧ Aside0 (Below w.heap.size w w'))
  case atStart => exact ⟨(([] : List (S25))), (0), (by first | rfl | (simp; done) | (simp [*]; done)), H', ⟨Nat.le_refl _⟩, ⟨by first | exact Kd.R_nil _ _ _ _ _ | exact Kd.N_nil _ _ _ _ _ | exact Kd.V_nil _ _ _ _ _ | exact Kd.Q_nil _ _ _ _ _ | exact Kd.S_nil _ _ _ _ _⟩, ⟨by repeat (first | (with_reducible first | exact HB.out | apply below_alloc | apply pw_below_drewN | apply below_drew1) | exact HB.out)⟩⟩
  case round =>
    clear H'
    obtain ⟨x3_1, x8_1, rfl, HA, HK1, HO_3, HB⟩ := hrel
    cases gk with
    | zero => exact absurd HA.out (by simp [goods_piles.l0])
    | succ k1 =>
      have H := HA.out
      clear HA
      simp only [goods_piles.l0] at H
      by_cases c2 : x8_1 < (l0.length : Int)
      · rw [if_pos c2] at H
        have c2b0 : decide (x8_1 < (l0.length : Int)) = true := decide_eq_true c2
        clear c2
        by_cases c3 : 0 ≤ x8_1
        · rw [if_pos c3] at H
          have c3b0 : decide (0 ≤ x8_1) = true := decide_eq_true c3
          clear c3
          by_cases c4 : x8_1 < (l0.length : Int)
          · rw [if_pos c4] at H
            have c4b0 : decide (x8_1 < (l0.length : Int)) = true := decide_eq_true c4
            clear c4
            by_cases c5 : x3_1.length < 8796093022208
            · rw [if_pos c5] at H
              have LMc5 := Aside0.mk c5
              clear c5
              obtain ⟨y107, hy107⟩ : ∃ y_ : List (S25), y_ = (x3_1 ++ [(⟨(rd_T25 l0 x8_1).f0, (rd_T25 l0 x8_1).f1⟩ : S25)]) := ⟨_, rfl⟩
              replace H : (goods_piles.l0 k1 y107 l0 (l0.length : Int) (wrap64 (x8_1 + 1))) = some r := by first | (rw [hy107]; with_reducible exact H) | (have H2_ := (Option.bind_some _ _).symm.trans H; rw [hy107]; with_reducible exact H2_) | (have H2_ := (Option.bind_some _ _).symm.trans H; with_reducible exact H2_) | with_reducible exact H | (rw [hy107]; exact H) | exact H
              have Ny107 := Aside0.mk hy107
              clear hy107
              have H' := Aside0.mk H
              clear H
              have p105 : 0 ≤ (x8_1 : Int) := of_decide_eq_true (by first | (with_reducible assumption) | assumption)
              have q105 : x8_1 < (l0.length : Int) := of_decide_eq_true (by first | (with_reducible assumption) | assumption)
              obtain ⟨ad105, e105, hx105_0, hx105_1⟩ := at_T25 HR0.out x8_1 p105 q105
              cases e105
              replace hx105_0 := (HB.out.cell (World.block_lt_of_cell? w _ hx105_0)).trans hx105_0
              replace hx105_1 := (HB.out.cell (World.block_lt_of_cell? w _ hx105_1)).trans hx105_1
              replace p105 := eq_true p105
              replace q105 := eq_true q105
              go_wp2_with (first | ((with_reducible refine gate_dst (N := 5) rfl ?_); refine box_event ?hg (N := 5) ?hd (cs := #[.int .u16 0, .int .i64 0]) (t := 25) ?hr ?_; (case hd => rfl); (case hg => rfl); (case hr => first | (go_simp; done) | (go_simp; rfl)); intro gb106 hg w6 hbox hb; have n0_ := Aside0.mk (Kd.R_below (by (with_reducible repeat (first | apply Kd.R_alloc | apply Kd.R_drewN | apply Kd.R_drew)); exact HO_3.out) hb); have n1_ := Aside0.mk (below_step (by repeat (first | (with_reducible first | exact HB.out | apply below_alloc | apply pw_below_drewN | apply below_drew1) | exact HB.out)) hb); have n2_ := Aside0.mk (hbox); have n3_ := Aside0.mk ((by rw [hg]; exact (below_size (by repeat (first | (with_reducible first | exact HB.out | apply below_alloc | apply pw_below_drewN | apply below_drew1) | exact HB.out))) : w.heap.size ≤ gb106)); have n4_ := Aside0.mk ((by rw [hg]; exact (below_size (by repeat (first | (with_reducible first | exact HB.out | apply below_alloc | apply pw_below_drewN | apply below_drew1) | exact HB.out))) : w.heap.size ≤ gb106)); clear HO_3; clear HB; have HO_3 := n0_; have HB := n1_; have BK106 := n2_; have GW106 := n3_; have GE106 := n4_; clear n0_ n1_ n2_ n3_ n4_; clear hb hbox hg; have hcz7_0 : w6.cell? ⟨gb106, 0, none⟩ = some (.int .u16 0) := (blk_cell BK106.out 0).trans rfl; have hcz7_1 : w6.cell? ⟨gb106, 1, none⟩ = some (.int .i64 0) := (blk_cell BK106.out 1).trans rfl; have hfz7_0 := blk_frozen BK106.out 0; have hfz7_1 := blk_frozen BK106.out 1) | ((with_reducible refine gate_builtin (b := .append) (xs := #[.tmp 12, .tmp 14]) rfl ?_); at_builtin; refine Kd.R_append k25 (w0 := w) w.heap.size rfl (.tmp 12) (.tmp 14) 116 115 (.agg #[(.int .u16 0), (.int .i64 0)]) 16 rfl Tryd.underlying116 info115 rfl (by decide) (by omega) u3 x3_1 (⟨(rd_T25 l0 x8_1).f0, (rd_T25 l0 x8_1).f1⟩ : S25) [.int .u16 ((rd_T25 l0 x8_1).f0), .int .i64 ((rd_T25 l0 x8_1).f1)] (fun _ => True) (fun _ => False) rfl (by first | (go_simp; done) | (go_simp; rfl)) ?aP (fun _ hk => hk.elim) ?aF ?aO ?aB ?aS ?aL ?_; (case aP => exact k25_mkM _ _ _ (⟨(rd_T25 l0 x8_1).f0, (rd_T25 l0 x8_1).f1⟩ : S25)); (case aB => exact (by repeat (first | (with_reducible first | exact HB.out | apply below_alloc | apply pw_below_drewN | apply below_drew1 | refine below_set ?_ GE106.out) | exact HB.out))); (case aF => exact (fun _ _ => trivial)); (case aO => exact (by (with_reducible repeat (first | apply Kd.R_alloc | apply Kd.R_drewN | apply Kd.R_drew)); exact Kd.R_mono (Kd.R_far (p := ⟨gb106, 1, none⟩) (Kd.R_far (p := ⟨gb106, 0, none⟩) (Kd.R_types HO_3.out BK106.out (by decide)) (fun _ hk => hk.2) (.int .u16 ((rd_T25 l0 x8_1).f0))) (fun _ hk => hk.2) (.int .i64 ((rd_T25 l0 x8_1).f1))) (fun _ hk => trivial))); (case aS => exact (below_size (by repeat (first | (with_reducible first | exact HB.out | apply below_alloc | apply pw_below_drewN | apply below_drew1 | refine below_set ?_ GE106.out) | exact HB.out)))); (case aL => have := LMc5.out; omega); intro v108 w8 ho hb hg hat; rw [← Ny107.out] at ho; have n0_ := Aside0.mk (blk_grown (g := gb106) (o := .cells #[.int .u16 ((rd_T25 l0 x8_1).f0), .int .i64 ((rd_T25 l0 x8_1).f1)] 25 (0, 0)) (by (with_reducible repeat (first | refine blk_drewN ?_ _ | refine blk_drew ?_ | refine blk_alloc ?_ _)); refine blk_put (cs := #[.int .u16 ((rd_T25 l0 x8_1).f0), .int .i64 0]) ?_ 1 _ rfl; (with_reducible repeat (first | refine blk_drewN ?_ _ | refine blk_drew ?_ | refine blk_alloc ?_ _)); refine blk_put (cs := #[.int .u16 0, .int .i64 0]) ?_ 0 _ rfl; (with_reducible repeat (first | refine blk_drewN ?_ _ | refine blk_drew ?_ | refine blk_alloc ?_ _)); exact BK106.out) hg (Kd.R_ne HO_3.out BK106.out (by decide))); have n1_ := Aside0.mk (hb); have n2_ := Aside0.mk (ho); clear BK106; clear HB; clear HO_3; have BK106 := n0_; have HB := n1_; have HO109 := n2_; clear n0_ n1_ n2_; clear ho hb hg hat))
              go_roundg k1
              case measure => have := HK1.out; omega
              case rel => exact ⟨(y107), (wrap64 (x8_1 + 1)), (by first | rfl | (simp; done) | (simp [*]; done)), H', ⟨by have := HK1.out; omega⟩, ⟨by (with_reducible repeat (first | apply Kd.R_alloc | apply Kd.R_drewN | apply Kd.R_drew)); exact HO109.out⟩, ⟨by repeat (first | (with_reducible first | exact HB.out | apply below_alloc | apply pw_below_drewN | apply below_drew1 | refine below_set ?_ GE106.out) | exact HB.out)⟩⟩
            · rw [if_neg c5] at H
              exact absurd H (by simp)
          · rw [if_neg c4] at H
            exact absurd H (by simp)
        · rw [if_neg c3] at H
          exact absurd H (by simp)
      · rw [if_neg c2] at H
        have c2b0 : decide (x8_1 < (l0.length : Int)) = false := decide_eq_false c2
        clear c2
        obtain rfl := Option.some.inj H
        go_wp2
        go_ret
        exact ⟨_, by first | rfl | (simp [errW_none, errW_some] <;> rfl) | (simp [*, errW_none, errW_some] <;> rfl), by (with_reducible repeat (first | apply Kd.R_alloc | apply Kd.R_drewN | apply Kd.R_drew)); exact HO_3.out, by repeat (first | (with_reducible first | exact HB.out | apply below_alloc | apply pw_below_drewN | apply below_drew1) | exact HB.out)⟩

end Go.Proofs.YtoclldkgkmhgaaaDoor.K

namespace Go.Proofs.YtoclldkgkmhgaaaDoor.K
open Go.Proofs.YtoclldkgkmhgaaaDoor.K (alloc_old alloc2_new alloc2_fst cell_lt below_two Laid_below Laid C_of_block)
open Go.RowKit Go.MapKept Go.Proofs.YtoclldkgkmhgaaaDoorW.PrintWords Go.Proofs.YtoclldkgkmhgaaaDoorW.PrintLast Go.Proofs.YtoclldkgkmhgaaaDoorW.PrintMore
set_option linter.unusedVariables false
set_option linter.unusedSimpArgs false

theorem piles_l0 (xs : List S25) (hlen : xs.length ≤ 1000) : ∀ (k i : Nat) (acc : List S25), i ≤ xs.length → acc.length = i → xs.length < k + i → goods_piles.l0 k acc xs (xs.length : Int) (i : Int) = some (acc ++ xs.drop i)
  | 0, i, acc, hi, _, hk => by omega
  | k + 1, i, acc, hi, ha, hk => by
    rw [goods_piles.l0]
    by_cases h : i < xs.length
    · have e1 : wrap64 ((i : Int) + 1) = ((i + 1 : Nat) : Int) := by unfold wrap64; omega
      have e2 : rd_T25 xs (i : Int) = xs[i] := by unfold rd_T25; rw [Int.toNat_natCast, List.getD_eq_getElem?_getD, List.getElem?_eq_getElem h]; rfl
      rw [if_pos (by omega), if_pos (by omega), if_pos (by omega), if_pos (by omega), e1, piles_l0 xs hlen k (i + 1) _ (by omega) (by simp [ha]) (by omega), e2, List.append_assoc, List.drop_eq_getElem_cons h]
      rfl
    · rw [if_neg (by omega), List.drop_eq_nil_of_le (by omega), List.append_nil]
theorem piles_f (xs : List S25) (hlen : xs.length ≤ 1000) : goods_piles.f 1002 xs = some xs := by
  have := piles_l0 xs hlen 1002 0 [] (by omega) rfl (by omega)
  simpa [goods_piles.f] using this

/-- Where something is, or would be. -/
def posS (n : Int) : List S25 → Nat
  | [] => 0
  | s :: l => if s.f0 < n then posS n l + 1 else 0
theorem posS_le (n : Int) : ∀ xs, posS n xs ≤ xs.length
  | [] => Nat.le_refl _
  | s :: l => by
    have := posS_le n l
    simp only [posS, List.length_cons]
    split <;> omega
theorem posS_eq (n : Int) : ∀ (xs : List S25) (i : Nat), i ≤ xs.length → (∀ t, t < i → (xs.getD t z25).f0 < n) → (i < xs.length → n ≤ (xs.getD i z25).f0) → posS n xs = i
  | [], i, hi, _, _ => by simp at hi; simp [posS, hi]
  | s :: l, 0, _, _, h => by
    have := h (by simp)
    simp at this
    rw [posS, if_neg (by omega)]
  | s :: l, i + 1, hi, h1, h2 => by
    have h0 := h1 0 (by omega)
    simp at h0
    rw [posS, if_pos h0, posS_eq n l i (by simpa using hi) (fun t ht => by simpa using h1 (t + 1) (by omega)) (fun h => by simpa using h2 (by simpa using h))]

/-- The items rise. -/
def Rise (xs : List S25) : Prop := ∀ i j, i < j → j < xs.length → (xs.getD i z25).f0 < (xs.getD j z25).f0
def thereS (n : Int) (xs : List S25) : Bool := decide (posS n xs < xs.length) && decide ((xs.getD (posS n xs) z25).f0 = n)

set_option maxRecDepth 100000 in
set_option maxHeartbeats 4000000 in
theorem search_walk (A : Option Addr) (c : Nat) (xs : List S25) (n : Int) (B : Nat) (w : World) (hC : Kd.C k25 w A xs.length xs) (hc : xs.length ≤ c) (hlen : xs.length ≤ 1000) (hM : Rise xs)
    (hB : w.heap[B]? = some (.cells #[.func (.func 93) #[] #[]] 118 (0, 0))) (i : Nat) (b : Bool) (hi : posS n xs = i) (hb : thereS n xs = b) :
    Calls Tryd.prog 99 #[.slice A xs.length c, .int .u16 n, .func (.func 100) #[] #[.pointer (some ⟨B, 0, none⟩)]] w fun e w' => e = .returned (.tuple #[.int .i64 i, .bool b]) ∧ Below w.heap.size w w' := by
  have HCC := Aside0.mk hC
  have HM := Aside0.mk hM
  have HI := Aside0.mk hi
  have HBB := Aside0.mk hb
  have HQ := Aside0.mk (fun (a b : Int) (V : World) (hb : Below w.heap.size w V) => cmp1_calls a b n B V ((hb.block _ (Array.getElem?_eq_some_iff.1 hB).1).trans hB))
  have hu95 := Tryd.underlying115
  have HB0 := Aside0.mk (Below.refl w.heap.size w)
  clear hC hM hi hb hB
  go_enter Tryd.func99, Tryd.ntmps99
  go_wp2
  go_loopg [9, 10] xs.length (fun kx s9 s10 wr => ∃ lo hi : Nat, s9 = .int .i64 lo ∧ s10 = .int .i64 hi ∧ lo ≤ hi ∧ hi ≤ xs.length ∧ hi - lo ≤ kx ∧ Aside0 (Below w.heap.size w wr) ∧
    Aside0 ((∀ t, t < lo → (xs.getD t z25).f0 < n) ∧ (∀ t, hi ≤ t → t < xs.length → n ≤ (xs.getD t z25).f0)))
  case atStart => exact ⟨0, xs.length, rfl, rfl, Nat.zero_le _, Nat.le_refl _, by omega, HB0, ⟨(fun t ht => absurd ht (Nat.not_lt_zero _)), (fun t h1 h2 => by omega)⟩⟩
  case round =>
    obtain ⟨lo, hi, rfl, rfl, hlh, hin, hg, S1, IV⟩ := hrel
    by_cases hlt : lo < hi
    · obtain ⟨ad, rfl, r0, r1⟩ := at_T25 (Kd.C_below HCC.out S1.out) (((lo + hi) / 2 : Nat) : Int) (by omega) (by omega)
      have hx : rd_T25 xs (((lo + hi) / 2 : Nat) : Int) = xs.getD ((lo + hi) / 2) z25 := by unfold rd_T25; rw [Int.toNat_natCast]
      rw [hx] at r0 r1
      rw [Int.toNat_natCast] at r0 r1
      obtain ⟨y, hy⟩ : ∃ y, xs.getD ((lo + hi) / 2) z25 = y := ⟨_, rfl⟩
      rw [hy] at r0 r1
      have Y := Aside0.mk hy
      clear hx hy
      have hc := HQ.out y.f0 y.f1 wr S1.out
      by_cases hyx : y.f0 < n
      · rw [show cmpI y.f0 n = -1 from if_pos hyx] at hc
        have HC2 := Aside0.mk hc
        clear hc
        have HY := Aside0.mk hyx
        clear hyx
        go_wp2_with (go_at_call 100; refine HC2.out.mono ?_; rintro e w' ⟨rfl, hb1⟩)
        go_roundg (hi - ((lo + hi) / 2 + 1))
        case measure => omega
        case rel =>
          refine ⟨(lo + hi) / 2 + 1, hi, by rw [show ((lo : Int) + (hi : Int)) / 2 + 1 = (((lo + hi) / 2 + 1 : Nat) : Int) by omega], rfl, by omega, hin, Nat.le_refl _, ⟨below_then S1.out S1.out.size hb1⟩, ⟨(fun t ht => ?_), IV.out.2⟩⟩
          rcases Nat.lt_or_ge t ((lo + hi) / 2) with h | h
          · have := HM.out t ((lo + hi) / 2) h (by omega)
            rw [Y.out] at this
            have := HY.out
            omega
          · obtain rfl : t = (lo + hi) / 2 := by omega
            rw [Y.out]
            exact HY.out
      · have hge : (0 : Int) ≤ cmpI y.f0 n := by
          unfold cmpI
          rw [if_neg hyx]
          split <;> omega
        obtain ⟨q, hq⟩ : ∃ q, cmpI y.f0 n = q := ⟨_, rfl⟩
        rw [hq] at hge hc
        have HC2 := Aside0.mk hc
        clear hc hq
        have HY := Aside0.mk hyx
        clear hyx
        go_wp2_with (go_at_call 100; refine HC2.out.mono ?_; rintro e w' ⟨rfl, hb1⟩)
        go_roundg ((lo + hi) / 2 - lo)
        case measure => omega
        case rel =>
          refine ⟨lo, (lo + hi) / 2, rfl, by rw [show ((lo : Int) + (hi : Int)) / 2 = (((lo + hi) / 2 : Nat) : Int) by omega], by omega, by omega, Nat.le_refl _, ⟨below_then S1.out S1.out.size hb1⟩, ⟨IV.out.1, (fun t ht htn => ?_)⟩⟩
          have hy := HY.out
          rcases Nat.lt_or_ge ((lo + hi) / 2) t with h | h
          · have := HM.out ((lo + hi) / 2) t h htn
            rw [Y.out] at this
            omega
          · obtain rfl : t = (lo + hi) / 2 := by omega
            rw [Y.out]
            omega
    · obtain rfl : hi = lo := by omega
      obtain rfl : i = hi := HI.out.symm.trans (posS_eq n xs hi hin (fun t ht => IV.out.1 t ht) (fun h => IV.out.2 hi (Nat.le_refl _) h))
      have hbb : b = (decide (i < xs.length) && decide ((xs.getD i z25).f0 = n)) := by rw [← HBB.out, thereS, HI.out]
      have HBT := Aside0.mk hbb
      clear hbb
      by_cases hn : i < xs.length
      · obtain ⟨ad, rfl, r0, r1⟩ := at_T25 (Kd.C_below HCC.out S1.out) (i : Int) (by omega) (by omega)
        have hx : rd_T25 xs (i : Int) = xs.getD i z25 := by unfold rd_T25; rw [Int.toNat_natCast]
        rw [hx] at r0 r1
        rw [Int.toNat_natCast] at r0 r1
        obtain ⟨y, hy⟩ : ∃ y, xs.getD i z25 = y := ⟨_, rfl⟩
        rw [hy] at r0 r1
        have Y := Aside0.mk hy
        clear hx hy
        have hc := HQ.out y.f0 y.f1 wr S1.out
        obtain ⟨q, hq⟩ : ∃ q, cmpI y.f0 n = q := ⟨_, rfl⟩
        have hz : decide (q = 0) = decide (y.f0 = n) := by
          rw [← hq]
          unfold cmpI
          exact decide_eq_decide.2 (by split <;> (try split) <;> omega)
        rw [hq] at hc
        have HC2 := Aside0.mk hc
        have HZ := Aside0.mk hz
        clear hc hq hz
        by_cases hyx : q = 0
        · go_wp2_with (go_at_call 100; refine HC2.out.mono ?_; rintro e w' ⟨rfl, hb1⟩)
          go_ret2
          exact ⟨by rw [HBT.out, Y.out, ← HZ.out]; simp [hn, hyx], below_then S1.out S1.out.size hb1⟩
        · go_wp2_with (go_at_call 100; refine HC2.out.mono ?_; rintro e w' ⟨rfl, hb1⟩)
          go_ret2
          exact ⟨by rw [HBT.out, Y.out, ← HZ.out]; simp [hn, hyx], below_then S1.out S1.out.size hb1⟩
      · go_wp2
        go_ret2
        exact ⟨by rw [HBT.out]; simp [hn], S1.out⟩
end Go.Proofs.YtoclldkgkmhgaaaDoor.K

namespace Go.Proofs.YtoclldkgkmhgaaaDoor.K
open Go.RowKit Go.MapKept Go.Proofs.YtoclldkgkmhgaaaDoorW.PrintWords Go.Proofs.YtoclldkgkmhgaaaDoorW.PrintLast Go.Proofs.YtoclldkgkmhgaaaDoorW.PrintMore
set_option linter.unusedVariables false
set_option linter.unusedSimpArgs false

theorem reps_one {α : Type} {R : α → List Value → Prop} {size : Nat} {ps : List α} {cs : List Value} (hs : 0 < size) (h : Reps R size ps cs) (h1 : ∀ x c, R x c → ∀ u ∈ c, u.oneCell' = true) : ∀ u ∈ cs, u.oneCell' = true := by
  intro u hu
  obtain ⟨i, hi, rfl⟩ := List.getElem_of_mem hu
  have hlt : i / size < ps.length := by
    rw [Nat.div_lt_iff_lt_mul hs]
    have := h.1
    omega
  refine h1 _ _ (h.2 (i / size) _ (List.getElem?_eq_getElem hlt)) _ ?_
  refine List.mem_iff_getElem?.2 ⟨i % size, ?_⟩
  rw [List.getElem?_take, if_pos (Nat.mod_lt _ hs), List.getElem?_drop, Nat.div_add_mod' i size]
  exact List.getElem?_eq_getElem hi

theorem k_any {w : World} (w' : World) {x : S25} {cs : List Value} (h : k25.K w x cs) : k25.K w' x cs := by
  rw [k25_open h]
  exact k25_mk _ _

theorem C_of_own {w : World} {base n : Nat} {e : TypeId} {v : Value} {ps : List S25} {cs : List Value} (h : w.ownsRow base e 2 v n cs) (hr : Reps (k25.K w) 2 ps cs) (hn : ps.length = n) :
    ∃ A c, v = .slice A n c ∧ n ≤ c ∧ Kd.C k25 w A n ps := by
  obtain ⟨A, c, rfl, hrow⟩ := own_reads_row h hr hn
  exact ⟨A, c, rfl, own_le h, hrow⟩

/-- What is read has its cells one behind the other. -/
theorem C_inner {w : World} {A : Option Addr} {n : Nat} {ps : List S25} (h : Kd.C k25 w A n ps) : ∃ cs, Reps (k25.K w) 2 ps cs ∧ (∀ b, A = some b → ∀ j u, cs[j]? = some u → w.cell? (b.add j) = some u) ∧ (∀ u ∈ cs, u.oneCell' = true) := by
  have h1 : ∀ x c, k25.K w x c → ∀ u ∈ c, u.oneCell' = true := fun x c hx => k25.K_one hx
  cases A with
  | none =>
    have : ps = [] := by
      rcases Nat.eq_zero_or_pos n with h0 | h0
      · exact List.eq_nil_of_length_eq_zero (h.1.trans h0)
      · obtain ⟨_, e, _⟩ := h.2.2 h0
        cases e
    subst this
    exact ⟨[], Reps.none _ _, (fun b hb => by cases hb), by simp⟩
  | some ad =>
    obtain ⟨cs, hr, hc⟩ := ReadsRow.inner_ h
    exact ⟨cs, hr, (fun b hb => by cases hb; exact hc), reps_one (show 0 < 2 by decide) hr h1⟩

theorem append_full {ops : Array Oper} {rest : List Oper} {o : Oper} {a : Act} {Q : Exit → Act → World → Prop} {w : World}
    (hg : o.guard = none) (s x : Operand) (hop : o.op = Op.call { callee := Callee.builtin Builtin.append, args := #[s, x], argTypes := #[39, 39] })
    {ao bo : Option Addr} {n m c : Nat} {ps qs : List S25} (hs : a.eval s = .slice ao n n) (hps : Kd.C k25 w ao n ps) (hx : a.eval x = .slice bo m c) (hqs : Kd.C k25 w bo m qs) (hl : n + m ≤ 100000)
    (hK : ∀ A' c' w', n + m ≤ c' → Kd.C k25 w' A' (n + m) (ps ++ qs) → Below w.heap.size w w' → wpList Tryd.prog ops Q rest (a.put o.dst (.slice A' (n + m) c')) w') :
    wpList Tryd.prog ops Q (o :: rest) a w := by
  have hi := info25
  obtain ⟨i0, hi0, hzz⟩ := Option.map_eq_some_iff.1 hi
  simp only [Prod.mk.injEq] at hzz
  obtain ⟨hz0, hz1, hz2⟩ := hzz
  have ht := Tryd.underlying39
  rcases Nat.eq_zero_or_pos m with hm | hm
  · subst hm
    have hq : qs = [] := List.eq_nil_of_length_eq_zero hqs.1
    subst hq
    refine wpList_plain hg fun K hK' => ?_
    have hrun : (Builtin.append_ #[39, 39] o.type #[.slice ao n n, .slice bo 0 c]).run Tryd.prog w = .ok (.slice ao n n) w := by
      have hfc : (Builtin.firstCells i0.size 0 (.slice bo 0 c)).run Tryd.prog w = .ok #[] w := by
        cases bo with
        | none => exact run_firstCells_none ..
        | some b => exact run_firstCells_some (P := Tryd.prog) w i0.size 0 b 0 c [] (by simp) (fun j u h => by simp at h)
      have hst : ∀ b : Addr, (storeCells b []).run Tryd.prog w = .ok () w := fun b => by first | rfl | (unfold storeCells; rfl) | simp [storeCells]
      cases ao with
      | none => simp [Builtin.append_, run_underlying ht, sizeOf, typeInfo, hi0, Builtin.lenOf, hfc]
      | some b => simp [Builtin.append_, run_underlying ht, sizeOf, typeInfo, hi0, Builtin.lenOf, hfc, hst]
    unfold Oper.wp
    simp [execOp, hop, resolve, invoke, builtin, hs, hx, hrun, Result.andThen]
    have := hK ao n w (by omega) (by simpa using hps) (Below.refl _ _)
    exact hK' _ _ (by simpa using this)
  · obtain ⟨ad, rfl, _⟩ := hqs.2.2 hm
    obtain ⟨olds, r1, c1, o1⟩ := C_inner hps
    obtain ⟨news, r2, c2, o2⟩ := C_inner hqs
    refine wpList_append_grows w hg s x 39 hop 25 i0 _ 2 16 ht hi0 hz0 hz1 hz2 rfl (by decide) ao n n olds hs (fun hn => ?_) (by rw [r1.1, hps.1]) c1 ad m c news hx (by rw [r2.1, hqs.1]) (c2 ad rfl) o2 (by omega) (by simp only [maxLen]; omega) (by omega) (fun v' w' hown hgr => ?_)
    · subst hn
      rcases Nat.eq_zero_or_pos n with h0 | h0
      · exact ⟨h0, h0⟩
      · obtain ⟨_, e, _⟩ := hps.2.2 h0
        cases e
    · have hr := Kd.reps_append r1 r2
      obtain ⟨A', c', rfl, hle, hC⟩ := C_of_own hown (hr.imp_ (fun _ _ h => k_any w' h)) (by rw [List.length_append, hps.1, hqs.1])
      exact hK A' c' w' hle hC ⟨hgr.os, hgr.tape, hgr.output, hgr.size, fun k hk => hgr.block k hk (by simp)⟩

theorem append_full1 {ops : Array Oper} {rest : List Oper} {o : Oper} {a : Act} {Q : Exit → Act → World → Prop} {w : World}
    (hg : o.guard = none) (s x : Operand) (hop : o.op = Op.call { callee := Callee.builtin Builtin.append, args := #[s, x], argTypes := #[39, 39] })
    {ao bo : Option Addr} {n m c : Nat} {ps qs : List S25} (hs : a.eval s = .slice ao n n) (hps : Kd.C k25 w ao n ps) (hx : a.eval x = .slice bo m c) (hqs : Kd.C k25 w bo m qs) (hl : n + m ≤ 100000) (hm : 0 < m)
    (hK : ∀ ad k c' w', k = n + m → k ≤ c' → Kd.C k25 w' (some ad) k (ps ++ qs) → Below w.heap.size w w' → wpList Tryd.prog ops Q rest (a.put o.dst (.slice (some ad) k c')) w') :
    wpList Tryd.prog ops Q (o :: rest) a w :=
  append_full hg s x hop hs hps hx hqs hl (fun A' c' w' hle hC hb => by
    obtain ⟨ad, rfl, _⟩ := hC.2.2 (by omega)
    exact hK ad (n + m) c' w' rfl hle hC hb)
end Go.Proofs.YtoclldkgkmhgaaaDoor.K

namespace Go.Proofs.YtoclldkgkmhgaaaDoor.K
open Go.Proofs.YtoclldkgkmhgaaaDoor.K (alloc_old alloc2_new alloc2_fst cell_lt below_two Laid_below Laid C_of_block)
open Go.RowKit Go.MapKept Go.Proofs.YtoclldkgkmhgaaaDoorW.PrintWords Go.Proofs.YtoclldkgkmhgaaaDoorW.PrintLast Go.Proofs.YtoclldkgkmhgaaaDoorW.PrintMore
set_option linter.unusedVariables false
set_option linter.unusedSimpArgs false

theorem C_take' {w : World} {A : Option Addr} {xs : List S25} {i : Nat} (h : Kd.C k25 w A xs.length xs) (hi : i ≤ xs.length) : Kd.C k25 w A i (xs.take i) := by
  have := Kd.C_take h hi
  rwa [List.length_take, Nat.min_eq_left hi] at this
theorem C_drop' {w : World} {A : Option Addr} {xs : List S25} {i c : Nat} (h : Kd.C k25 w A xs.length xs) (hi : i ≤ xs.length) (hc : xs.length ≤ c) : Kd.C k25 w (if c = i then A else A.map (·.add (i * 2))) (xs.length - i) (xs.drop i) := by
  have := Kd.C_drop h hi hc
  rwa [List.length_drop] at this
theorem C_lit (w : World) (x y : Int) : Kd.C k25 (w.alloc (.cells #[.int .u16 x, .int .i64 y] 25)) (some ⟨w.heap.size, 0, none⟩) 1 [⟨x, y⟩] :=
  C_of_block k25 (fun s => [.int .u16 s.f0, .int .i64 s.f1]) (MapKept.heap_alloc w _).1 [⟨x, y⟩] (fun _ => rfl) (fun s => k25_mk _ s) rfl (by simp)

theorem place_walk (A : Option Addr) (c : Nat) (xs : List S25) (n : Int) (w : World) (hC : Kd.C k25 w A xs.length xs) (hc : xs.length ≤ c) (hlen : xs.length ≤ 1000) (hM : Rise xs) (i : Nat) (b : Bool) (hi : posS n xs = i) (hb : thereS n xs = b) :
    Calls Tryd.prog 91 #[.slice A xs.length c, .int .u16 n, .func (.func 93) #[] #[]] w fun e w' => e = .returned (.tuple #[.int .i64 i, .bool b]) ∧ Below w.heap.size w w' := by
  have hmf : ∀ (fn : Fn) (first cap : Array Value) (w : World), (Instr.makeFunc fn first cap).run Tryd.prog w = .ok (.func fn first cap) w := fun _ _ _ _ => rfl
  have HS := Aside0.mk (search_walk A c xs n w.heap.size (w.alloc (.cells #[.func (.func 93) #[] #[]] 118)) (Kd.C_alloc hC _) hc hlen hM (MapKept.heap_alloc w _).1 i b hi hb)
  clear hC hM hi hb
  go_enter Tryd.func91, Tryd.ntmps91
  go_wp2_with (go_at_call 99; refine HS.out.mono ?_; rintro e w1 ⟨rfl, hb1⟩)
  go_ret2
  exact ⟨rfl, below_then (below_alloc (Below.refl _ _) _) (by simp) hb1⟩

/-- Goods whose stack of an item is another one. -/
def withS (xs : List S25) (it n : Int) : List S25 :=
  (xs.take (posS it xs) ++ if n > 0 then [⟨it, n⟩] else []) ++ xs.drop (if thereS it xs then posS it xs + 1 else posS it xs)

set_option maxRecDepth 100000 in
set_option maxHeartbeats 4000000 in
theorem with_walk (A : Option Addr) (c : Nat) (xs : List S25) (it n : Int) (w : World) (hL : Laid w) (hC : Kd.C k25 w A xs.length xs) (hc : xs.length ≤ c) (hlen : xs.length ≤ 1000) (hM : Rise xs) :
    Calls Tryd.prog 77 #[.slice A xs.length c, .agg #[.int .u16 it, .int .i64 n]] w fun e w' => ∃ A' c', e = .returned (.slice A' (withS xs it n).length c') ∧ (withS xs it n).length ≤ c' ∧ Kd.C k25 w' A' (withS xs it n).length (withS xs it n) ∧ Below w.heap.size w w' := by
  have hu42 := Tryd.underlying25
  have HP := Aside0.mk (fun (V : World) (hb : Below w.heap.size w V) => goods_piles.calls 1002 A c xs xs V (Laid_below hL hb) (Kd.C_below hC hb) hc (piles_f xs hlen))
  obtain ⟨i, hi⟩ : ∃ i, posS it xs = i := ⟨_, rfl⟩
  obtain ⟨b, hb⟩ : ∃ b, thereS it xs = b := ⟨_, rfl⟩
  have HS := Aside0.mk (fun (V : World) (A' : Option Addr) (c' : Nat) (hC' : Kd.C k25 V A' xs.length xs) (hc' : xs.length ≤ c') => place_walk A' c' xs it V hC' hc' hlen hM i b hi hb)
  have hil : i ≤ xs.length := by rw [← hi]; exact posS_le _ _
  have hbl : b = true → i < xs.length := fun h => by
    rw [h] at hb
    unfold thereS at hb
    rw [hi] at hb
    simp at hb
    exact hb.1
  obtain ⟨r, hr⟩ : ∃ r, withS xs it n = r := ⟨_, rfl⟩
  rw [hr]
  have hr' : r = (xs.take i ++ if n > 0 then [⟨it, n⟩] else []) ++ xs.drop (if b then i + 1 else i) := by rw [← hr, withS, hi, hb]
  have HR := Aside0.mk hr'
  have HCC := Aside0.mk hC
  clear hi hb hr hr' hC hL hM
  go_enter Tryd.func77, Tryd.ntmps77
  go_wp2
  go_cut [5, 6] (fun v5 v6 wx => v5 = .int .i64 i ∧ v6 = .bool b ∧ wx.heap[w.heap.size]? = some (.cells #[.int .u16 it, .int .i64 n] 25 (0, 0)) ∧ Below w.heap.size w wx)
  case first =>
    go_region_with (first
      | (go_at_call 92; refine (HP.out _ (below_drew1 (below_alloc (Below.refl _ _) _))).mono ?_; rintro e w1 ⟨v1, rfl, hv1, hb1⟩; obtain ⟨A1, c1, rfl, hc1, hC1⟩ := Kd.R_reads hv1; have hBox := (hb1.block w.heap.size (by simp [World.drew])).trans (MapKept.heap_alloc w (.cells #[.int .u16 it, .int .i64 n] 25)).1; have b0 := (blk_cell hBox 0).trans rfl; have HBOX := Aside0.mk hBox; have HB1 := Aside0.mk hb1; have HC1 := Aside0.mk hC1; clear hv1 hb1 hBox hC1)
      | (go_at_call 91; refine (HS.out _ _ _ HC1.out hc1).mono ?_; rintro e w2 ⟨rfl, hb2⟩; have HB2 := Aside0.mk hb2; clear hb2))
    all_goals go_wp2_with fail
    all_goals go_meet
    all_goals exact ⟨rfl, rfl, (HB2.out.block _ (by have := HB1.out.size; simp at this; omega)).trans HBOX.out, below_then (below_then (below_drew1 (below_alloc (Below.refl _ _) _)) (by simp [World.drew]) HB1.out) (by have := HB1.out.size; simp [World.drew] at this; omega) HB2.out⟩
  case rest =>
    obtain ⟨rfl, rfl, hbx, hbel⟩ := hcut
    have b0 := (blk_cell hbx 0).trans rfl
    have b1 := (blk_cell hbx 1).trans rfl
    have HCW := Aside0.mk (Kd.C_below HCC.out hbel)
    have HBEL := Aside0.mk hbel
    clear hbx hbel
    obtain ⟨en, hen⟩ : ∃ en : Nat, en = if b then i + 1 else i := ⟨_, rfl⟩
    have henl : en ≤ xs.length := by
      rw [hen]
      split
      · exact hbl (by assumption)
      · exact hil
    have hil2 : i ≤ en := by rw [hen]; split <;> omega
    have HEN := Aside0.mk hen
    clear hen hbl
    go_upto_if 18 with fail
    go_cut [7] (fun v7 wx => v7 = .int .i64 (en : Int) ∧ wx = wc)
    case first =>
      cases b with
      | true =>
        go_wp2
        go_meet
        exact ⟨by rw [HEN.out]; simp, rfl⟩
      | false =>
        go_wp2
        go_meet
        exact ⟨by rw [HEN.out]; simp, rfl⟩
    case rest =>
      obtain ⟨rfl, rfl⟩ := hcut
      have HT0 := Aside0.mk (C_take' HCW.out hil)
      have HD0 := Aside0.mk (C_drop' HCW.out henl hc)
      cases A with
      | none =>
        have hx : xs = [] := by
          rcases Nat.eq_zero_or_pos xs.length with h0 | h0
          · exact List.eq_nil_of_length_eq_zero h0
          · obtain ⟨_, e, _⟩ := HCW.out.2.2 h0
            cases e
        subst hx
        obtain rfl : i = 0 := by simpa using hil
        obtain rfl : en = 0 := by simpa using henl
        have HT1 := Aside0.mk (Kd.C_nil k25 wc)
        clear HT0 HD0 HCC HCW
        by_cases hn : n > 0
        all_goals have HN := Aside0.mk hn
        · go_wp2_with (at_builtin; refine append_full1 rfl _ _ rfl rfl (Kd.C_alloc HT1.out _) rfl (C_lit _ _ _) (by simp) Nat.one_pos ?_; intro ad1 k1 c1 w1 hk1 hle hC1 hb1; have hk2 : k1 ≤ 1001 := (by simp at hk1; omega); have HK1 := Aside0.mk hk1; have HC1 := Aside0.mk hC1; have HB1 := Aside0.mk (below_then (below_alloc (Below.refl _ _) _) (by simp) hb1); clear hC1 hb1 hk1)
          go_still_tail 9, (by kernel_rfl)
          go_wp2_with (at_builtin; refine append_full rfl _ _ rfl rfl (Kd.C_drew HC1.out) rfl (Kd.C_drew (Kd.C_below HT1.out HB1.out)) (by simp; omega) ?_; intro A2 c2 w2 hle2 hC2 hb2; have HC2 := Aside0.mk hC2; have HB2 := Aside0.mk hb2; clear hC2 hb2)
          all_goals (
            go_ret
            have hr := HR.out
            rw [if_pos HN.out, ← HEN.out] at hr
            obtain rfl := hr
            have hk := HK1.out
            obtain rfl : k1 = 1 := by simpa using hk
            exact ⟨A2, c2, rfl, hle2, HC2.out, below_then HBEL.out HBEL.out.size (HB1.out.trans ((below_drew1 (Below.refl w1.heap.size w1)).trans HB2.out |>.mono HB1.out.size))⟩)
        · go_wp2_with fail
          go_still_tail 9, (by kernel_rfl)
          go_wp2_with (at_builtin; refine append_full rfl _ _ rfl rfl (Kd.C_drew HT1.out) rfl (Kd.C_drew HT1.out) (by simp) ?_; intro A2 c2 w2 hle2 hC2 hb2; have HC2 := Aside0.mk hC2; have HB2 := Aside0.mk hb2; clear hC2 hb2)
          all_goals (
            go_ret
            have hr := HR.out
            rw [if_neg (show ¬ n > 0 from by have := HN.out; omega), ← HEN.out, List.append_nil] at hr
            obtain rfl := hr
            exact ⟨A2, c2, rfl, hle2, HC2.out, below_then HBEL.out HBEL.out.size ((below_drew1 (Below.refl wc.heap.size wc)).trans HB2.out)⟩)
      | some ad =>
        by_cases hn : n > 0
        all_goals have HN := Aside0.mk hn
        · go_wp2_with (at_builtin; refine append_full1 rfl _ _ rfl rfl (Kd.C_alloc HT0.out _) rfl (C_lit _ _ _) (by omega) Nat.one_pos ?_; intro ad1 k1 c1 w1 hk1 hle hC1 hb1; have hk2 : k1 ≤ 1001 := (by omega); have HK1 := Aside0.mk hk1; have HC1 := Aside0.mk hC1; have HB1 := Aside0.mk (below_then (below_alloc (Below.refl _ _) _) (by simp) hb1); clear hC1 hb1 hk1)
          go_still_tail 9, (by kernel_rfl)
          go_wp2_with (at_builtin; refine append_full rfl _ _ rfl rfl (Kd.C_drew HC1.out) rfl (Kd.C_drew (Kd.C_below HD0.out HB1.out)) (by omega) ?_; intro A2 c2 w2 hle2 hC2 hb2; have HC2 := Aside0.mk hC2; have HB2 := Aside0.mk hb2; clear hC2 hb2)
          all_goals (
            go_ret
            have hr := HR.out
            rw [if_pos HN.out, ← HEN.out] at hr
            obtain rfl := hr
            have hl : ((xs.take i ++ [(⟨it, n⟩ : S25)]) ++ xs.drop en).length = k1 + (xs.length - en) := by
              have := HK1.out
              simp
              omega
            exact ⟨A2, c2, by rw [hl]; rfl, by rw [hl]; exact hle2, by rw [hl]; exact HC2.out, below_then HBEL.out HBEL.out.size (HB1.out.trans ((below_drew1 (Below.refl w1.heap.size w1)).trans HB2.out |>.mono HB1.out.size))⟩)
        · go_wp2_with fail
          go_still_tail 9, (by kernel_rfl)
          go_wp2_with (at_builtin; refine append_full rfl _ _ rfl rfl (Kd.C_drew HT0.out) rfl (Kd.C_drew HD0.out) (by omega) ?_; intro A2 c2 w2 hle2 hC2 hb2; have HC2 := Aside0.mk hC2; have HB2 := Aside0.mk hb2; clear hC2 hb2)
          all_goals (
            go_ret
            have hr := HR.out
            rw [if_neg (show ¬ n > 0 from by have := HN.out; omega), ← HEN.out, List.append_nil] at hr
            obtain rfl := hr
            have hl : (xs.take i ++ xs.drop en).length = i + (xs.length - en) := by
              simp
              omega
            exact ⟨A2, c2, by rw [hl]; rfl, by rw [hl]; exact hle2, by rw [hl]; exact HC2.out, below_then HBEL.out HBEL.out.size ((below_drew1 (Below.refl wc.heap.size wc)).trans HB2.out)⟩)
end Go.Proofs.YtoclldkgkmhgaaaDoor.K

namespace Go.Proofs.YtoclldkgkmhgaaaDoor.K
open Go.Proofs.YtoclldkgkmhgaaaDoor.K (alloc_old alloc2_new alloc2_fst cell_lt below_two Laid_below Laid C_of_block)
open Go.RowKit Go.MapKept Go.Proofs.YtoclldkgkmhgaaaDoorW.PrintWords Go.Proofs.YtoclldkgkmhgaaaDoorW.PrintLast Go.Proofs.YtoclldkgkmhgaaaDoorW.PrintMore
set_option linter.unusedVariables false
set_option linter.unusedSimpArgs false

theorem k_M {w : World} {base : Nat} {ok : Nat → Prop} {x : S25} {cs : List Value} (h : k25.K w x cs) : k25.M w base ok x cs := by
  rw [k25_open h]
  exact k25_mkM _ _ _ _

theorem R_empty (w : World) (base : Nat) (hb : base ≤ w.heap.size) (cap : Nat) (hcap : cap ≤ 1000) (cells : Array Value) (hs : cells.size = cap * 2) : Kd.R k25 25 (w.alloc (.cells cells 25)) base (fun _ => True) (.slice (some ⟨w.heap.size, 0, none⟩) 0 cap) [] :=
  ⟨fun _ _ => trivial, [], ⟨rfl, .inr ⟨w.heap.size, cap, cells, rfl, hb, (MapKept.heap_alloc w _).1, Nat.zero_le _, by simp only [maxLen]; omega, hs, rfl⟩⟩, Reps.none _ _⟩

set_option maxHeartbeats 2000000 in
theorem clone_walk (A : Option Addr) (n c : Nat) (xs : List S25) (w : World) (hC : Kd.C k25 w A n xs) (hlen : n ≤ 4000) :
    Calls Tryd.prog 71 #[.slice A n c] w fun e w' => ∃ v0, e = .returned v0 ∧ Kd.R k25 25 w' w.heap.size (fun _ => True) v0 xs ∧ Below w.heap.size w w' := by
  have q : ∀ (w : World) (a : Option Addr) (n c n' c' : Nat), (binOp .eql 39 (.slice a n c) (.slice none n' c')).run Tryd.prog w = .ok (.bool a.isNone) w := fun w a n c n' c' => Lib.run_eql_slice_nil w _ _ a n c n' c' Tryd.underlying39
  have HCC := Aside0.mk hC
  cases A with
  | none =>
    have hx : xs = [] := by
      rcases Nat.eq_zero_or_pos n with h0 | h0
      · exact List.eq_nil_of_length_eq_zero (hC.1.trans h0)
      · obtain ⟨_, e, _⟩ := hC.2.2 h0
        cases e
    subst hx
    clear hC HCC
    go_enter Tryd.func71, Tryd.ntmps71
    go_wp2
    go_ret
    exact ⟨_, rfl, Kd.R_nil _ _ _ _ _, Below.refl _ _⟩
  | some ad =>
    clear hC
    go_enter Tryd.func71, Tryd.ntmps71
    go_wp2_with (at_builtin; refine Kd.R_append_rows k25 w.heap.size rfl _ _ 39 25 _ 16 rfl Tryd.underlying39 info25 rfl (by decide) (by decide) _ [] xs (some ad) n c (fun _ => True) (fun _ => False) rfl rfl (R_empty w _ (Nat.le_refl _) 0 (by omega) #[] rfl) (Kd.C_alloc HCC.out _) (fun x cs h => k_M h) (fun _ h => h.elim) (fun _ _ => trivial) (below_alloc (Below.refl _ _) _) (by simp) (by simp; omega) ?_; intro v1 w1 hR hb1 _ _; have HR1 := Aside0.mk hR; have HB1 := Aside0.mk hb1; clear hR hb1)
    go_ret
    exact ⟨v1, rfl, by simpa using HR1.out, HB1.out⟩
end Go.Proofs.YtoclldkgkmhgaaaDoor.K

namespace Go.Proofs.YtoclldkgkmhgaaaDoor.K
open Go.Proofs.YtoclldkgkmhgaaaDoor.K (alloc_old alloc2_new alloc2_fst cell_lt below_two Laid_below Laid C_of_block)
open Go.RowKit Go.MapKept Go.Proofs.YtoclldkgkmhgaaaDoorW.PrintWords Go.Proofs.YtoclldkgkmhgaaaDoorW.PrintLast Go.Proofs.YtoclldkgkmhgaaaDoorW.PrintMore
set_option linter.unusedVariables false
set_option linter.unusedSimpArgs false
attribute [local go_sem] max2_int min2_int max_two min_two

end Go.Proofs.YtoclldkgkmhgaaaDoor.K

namespace Go.Proofs.YtoclldkgkmhgaaaDoor.K
open Go.Proofs.YtoclldkgkmhgaaaDoor.K (alloc_old alloc2_new alloc2_fst cell_lt below_two Laid_below Laid C_of_block)
open Go.RowKit Go.MapKept Go.Proofs.YtoclldkgkmhgaaaDoorW.PrintWords Go.Proofs.YtoclldkgkmhgaaaDoorW.PrintLast Go.Proofs.YtoclldkgkmhgaaaDoorW.PrintMore
set_option linter.unusedVariables false
set_option linter.unusedSimpArgs false
attribute [local go_sem] max2_int min2_int max_two min_two

end Go.Proofs.YtoclldkgkmhgaaaDoor.K

namespace Go.Proofs.YtoclldkgkmhgaaaDoor.K
open Go.Proofs.YtoclldkgkmhgaaaDoor.K (alloc_old alloc2_new alloc2_fst cell_lt below_two Laid_below Laid C_of_block addF subF)
open Go.RowKit Go.MapKept Go.Proofs.YtoclldkgkmhgaaaDoorW.PrintWords Go.Proofs.YtoclldkgkmhgaaaDoorW.PrintLast Go.Proofs.YtoclldkgkmhgaaaDoorW.PrintMore
set_option linter.unusedVariables false
set_option linter.unusedSimpArgs false

theorem okTo_at {xs : List S25} {k : Nat} (h : okTo xs k = true) : ∀ j, j < k → badS (prevS xs j) (xs.getD j z25) = false := by
  intro j hj
  unfold okTo at h
  have := List.all_eq_true.1 h j (List.mem_range.2 hj)
  simpa using this
theorem right_len {xs : List S25} (h : rightS xs = true) : xs.length ≤ 20 := by
  unfold rightS at h
  simp at h
  exact h.1
theorem right_next {xs : List S25} (h : rightS xs = true) (j : Nat) (hj : j + 1 < xs.length) : (xs.getD j z25).f0 < (xs.getD (j + 1) z25).f0 := by
  unfold rightS at h
  simp only [Bool.and_eq_true] at h
  have h0 := okTo_at h.2 j (by omega)
  have h1 := okTo_at h.2 (j + 1) hj
  have e : prevS xs (j + 1) = xs.getD j z25 := rfl
  rw [e] at h1
  unfold badS amtS at h0 h1
  simp only [Bool.or_eq_false_iff, Bool.not_eq_false', Bool.and_eq_true, decide_eq_true_eq] at h0 h1
  have hz : (!((xs.getD j z25).f0 == 0 && (xs.getD j z25).f1 == 0)) = true := by
    have : ((xs.getD j z25).f1 == 0) = false := by
      rw [beq_eq_false_iff_ne]
      omega
    rw [this, Bool.and_false]
    rfl
  rw [hz, Bool.true_and] at h1
  have := h1.2
  simp at this
  simpa using this
theorem right_rise {xs : List S25} (h : rightS xs = true) : Rise xs := by
  intro i j hij hj
  induction j with
  | zero => omega
  | succ j ih =>
    rcases Nat.lt_or_ge i j with h1 | h1
    · have := ih h1 (by omega)
      have := right_next h j hj
      omega
    · obtain rfl : i = j := by omega
      exact right_next h i hj

/-- Giving. -/
def giveS (l : List S25) (it n : Int) : List S25 × Int :=
  if (rightS l && amtS n) = true then
    (if (addF (countS it l) n).2 = 0 then (if countS it l = 0 ∧ l.length = 20 then ([], 121) else (withS l it (addF (countS it l) n).1, 0)) else ([], (addF (countS it l) n).2))
  else ([], 120)
set_option maxRecDepth 100000 in
set_option maxHeartbeats 4000000 in
theorem give_walk (A : Option Addr) (c : Nat) (xs : List S25) (it n : Int) (w : World) (hL : Laid w) (hC : Kd.C k25 w A xs.length xs) (hc : xs.length ≤ c) (hlen : xs.length ≤ 1000) (r1 : List S25) (r2 : Int) (hr : giveS xs it n = (r1, r2)) :
    Calls Tryd.prog 61 #[.slice A xs.length c, .agg #[.int .u16 it, .int .i64 n]] w fun e w' => ∃ v0, e = .returned (.tuple #[v0, .int .i64 r2]) ∧ Kd.R k25 25 w' w.heap.size (fun _ => True) v0 r1 ∧ Below w.heap.size w w' := by
  have hu42 := Tryd.underlying25
  obtain ⟨br, hbr⟩ : ∃ b, rightS xs = b := ⟨_, rfl⟩
  obtain ⟨bn, hbn⟩ : ∃ b, amtS n = b := ⟨_, rfl⟩
  obtain ⟨o, ho⟩ : ∃ o, countS it xs = o := ⟨_, rfl⟩
  obtain ⟨s1, s2, hs⟩ : ∃ s1 s2, addF o n = (s1, s2) := ⟨_, _, rfl⟩
  have HR := Aside0.mk (fun (V : World) (hb : Below w.heap.size w V) => right_walk A c xs V (Laid_below hL hb) (Kd.C_below hC hb) hc hlen br hbr)
  have HA := Aside0.mk (fun (V : World) (hb : Below w.heap.size w V) (g : Nat) hg => by have := one_are n V (Laid_below hL hb) g hg; rw [hbn] at this; exact this)
  have HC := Aside0.mk (fun (V : World) (hb : Below w.heap.size w V) => count_walk A c xs it V (Kd.C_below hC hb) hc hlen o ho)
  have HM := Aside0.mk (fun (V : World) (hb : Below w.heap.size w V) => K.money_Add.calls o n s1 s2 V (Laid_below hL hb) (by unfold K.money_Add.f; rw [hs]))
  have HW := Aside0.mk (fun (V : World) (hb : Below w.heap.size w V) (hr : br = true) => with_walk A c xs it s1 V (Laid_below hL hb) (Kd.C_below hC hb) hc hlen (right_rise (hbr.trans hr)))
  have HN := Aside0.mk clone_walk
  unfold giveS at hr
  rw [hbr, hbn, ho, hs] at hr
  have hwl : (withS xs it s1).length ≤ 4000 := by
    unfold withS
    have := List.length_take_le (posS it xs) xs
    have h2 : (if s1 > 0 then [(⟨it, s1⟩ : S25)] else []).length ≤ 1 := by split <;> simp
    simp only [List.length_append, List.length_drop, List.length_take]
    omega
  have HWL := Aside0.mk hwl
  have HRR := Aside0.mk hr
  clear hL hC hbr hbn ho hs hr hwl
  have d0 := (MapKept.heap_alloc w (.cells #[.int .u16 it, .int .i64 n] 25)).1
  have HD := Aside0.mk d0
  clear d0
  go_enter Tryd.func61, Tryd.ntmps61
  cases br with
  | false =>
    go_wp2_with (go_at_call 70; refine (HR.out _ (below_alloc (Below.refl _ _) _)).mono ?_; rintro e w1 ⟨rfl, hb⟩; have HB := Aside0.mk (below_then (below_alloc (Below.refl _ _) _) (by simp) hb); clear hb)
    go_ret2
    have hr := HRR.out
    simp at hr
    obtain ⟨rfl, rfl⟩ := hr
    exact ⟨_, rfl, Kd.R_nil _ _ _ _ _, HB.out⟩
  | true =>
    cases bn with
    | false =>
      go_wp2_with (first
        | (go_at_call 70; refine (HR.out _ (below_alloc (Below.refl _ _) _)).mono ?_; rintro e w1 ⟨rfl, hb⟩; have hd := (hb.block _ (Array.getElem?_eq_some_iff.1 HD.out).1).trans HD.out; have c0 := (blk_cell hd 0).trans rfl; have c1 := (blk_cell hd 1).trans rfl; have HB := Aside0.mk (below_then (below_alloc (Below.refl _ _) _) (by simp) hb); clear hb hd)
        | (go_at_call 74; refine (HA.out _ (below_alloc HB.out _) _ (MapKept.heap_alloc _ _).1).mono ?_; rintro e w2 ⟨rfl, hb⟩; have HB2 := Aside0.mk (below_then (below_alloc HB.out _) (below_alloc HB.out _).size hb); clear hb))
      go_ret2
      have hr := HRR.out
      simp at hr
      obtain ⟨rfl, rfl⟩ := hr
      exact ⟨_, rfl, Kd.R_nil _ _ _ _ _, HB2.out⟩
    | true =>
      obtain ⟨q2, hq2⟩ : ∃ b, (s2 != 0) = b := ⟨_, rfl⟩
      obtain ⟨q0, hq0⟩ : ∃ b, (o == 0) = b := ⟨_, rfl⟩
      obtain ⟨ql, hql⟩ : ∃ b, ((xs.length : Int) == 20) = b := ⟨_, rfl⟩
      have HQ := Aside0.mk (And.intro hq2 (And.intro hq0 hql))
      cases q2 with
      | true =>
        clear hq0 hql
        go_wp2_with (first
            | (go_at_call 70; refine (HR.out _ (below_alloc (Below.refl _ _) _)).mono ?_; rintro e w1 ⟨rfl, hb⟩; have hd := (hb.block _ (Array.getElem?_eq_some_iff.1 HD.out).1).trans HD.out; have c0 := (blk_cell hd 0).trans rfl; have c1 := (blk_cell hd 1).trans rfl; have HD1 := Aside0.mk hd; have HB := Aside0.mk (below_then (below_alloc (Below.refl _ _) _) (by simp) hb); clear hb hd)
            | (go_at_call 74; refine (HA.out _ (below_alloc HB.out _) _ (MapKept.heap_alloc _ _).1).mono ?_; rintro e w2 ⟨rfl, hb⟩; have hd := (hb.block _ (by have := (Array.getElem?_eq_some_iff.1 HD1.out).1; simp; omega)).trans (alloc_old (.cells #[.int .i64 n] 2) HD1.out); clear c0 c1; have c0 := (blk_cell hd 0).trans rfl; have c1 := (blk_cell hd 1).trans rfl; have HD2 := Aside0.mk hd; have HB2 := Aside0.mk (below_then (below_alloc HB.out _) (below_alloc HB.out _).size hb); clear hb hd)
            | (go_at_call 76; refine (HC.out _ HB2.out).mono ?_; rintro e w3 ⟨rfl, hb⟩; have hd := (hb.block _ (Array.getElem?_eq_some_iff.1 HD2.out).1).trans HD2.out; clear c0 c1; have c0 := (blk_cell hd 0).trans rfl; have c1 := (blk_cell hd 1).trans rfl; have HD3 := Aside0.mk hd; have HB3 := Aside0.mk (below_then HB2.out HB2.out.size hb); clear hb hd)
            | (go_at_call 83; refine (HM.out _ HB3.out).mono ?_; rintro e w4 ⟨rfl, hb⟩; have hd := (hb.block _ (Array.getElem?_eq_some_iff.1 HD3.out).1).trans HD3.out; clear c0 c1; have c0 := (blk_cell hd 0).trans rfl; have c1 := (blk_cell hd 1).trans rfl; have HB4 := Aside0.mk (below_then HB3.out HB3.out.size hb); clear hb hd)
            | (go_at_call 77; refine (HW.out _ HB4.out (by simp)).mono ?_; rintro e w5 ⟨A5, c5, rfl, hc5, hC5, hb⟩; have HC5 := Aside0.mk hC5; have HB5 := Aside0.mk (below_then HB4.out HB4.out.size hb); clear hb hC5 hc5)
            | (go_at_call 71; refine (HN.out _ _ _ _ _ HC5.out HWL.out).mono ?_; rintro e w6 ⟨v6, rfl, hR, hb⟩; have HR6 := Aside0.mk (Kd.R_lower hR HB5.out.size); have HB6 := Aside0.mk (below_then HB5.out HB5.out.size hb); clear hb hR))
        go_ret2
        obtain ⟨h2, _, _⟩ := HQ.out
        have hr := HRR.out
        rw [show (true && true) = true from rfl, if_pos rfl, if_neg (by simpa using h2)] at hr
        obtain ⟨rfl, rfl⟩ := Prod.mk.injEq _ _ _ _ ▸ hr
        exact ⟨_, rfl, Kd.R_nil _ _ _ _ _, HB4.out⟩
      | false =>
        cases q0 with
        | true =>
          cases ql with
          | true =>
            go_wp2_with (first
                | (go_at_call 70; refine (HR.out _ (below_alloc (Below.refl _ _) _)).mono ?_; rintro e w1 ⟨rfl, hb⟩; have hd := (hb.block _ (Array.getElem?_eq_some_iff.1 HD.out).1).trans HD.out; have c0 := (blk_cell hd 0).trans rfl; have c1 := (blk_cell hd 1).trans rfl; have HD1 := Aside0.mk hd; have HB := Aside0.mk (below_then (below_alloc (Below.refl _ _) _) (by simp) hb); clear hb hd)
                | (go_at_call 74; refine (HA.out _ (below_alloc HB.out _) _ (MapKept.heap_alloc _ _).1).mono ?_; rintro e w2 ⟨rfl, hb⟩; have hd := (hb.block _ (by have := (Array.getElem?_eq_some_iff.1 HD1.out).1; simp; omega)).trans (alloc_old (.cells #[.int .i64 n] 2) HD1.out); clear c0 c1; have c0 := (blk_cell hd 0).trans rfl; have c1 := (blk_cell hd 1).trans rfl; have HD2 := Aside0.mk hd; have HB2 := Aside0.mk (below_then (below_alloc HB.out _) (below_alloc HB.out _).size hb); clear hb hd)
                | (go_at_call 76; refine (HC.out _ HB2.out).mono ?_; rintro e w3 ⟨rfl, hb⟩; have hd := (hb.block _ (Array.getElem?_eq_some_iff.1 HD2.out).1).trans HD2.out; clear c0 c1; have c0 := (blk_cell hd 0).trans rfl; have c1 := (blk_cell hd 1).trans rfl; have HD3 := Aside0.mk hd; have HB3 := Aside0.mk (below_then HB2.out HB2.out.size hb); clear hb hd)
                | (go_at_call 83; refine (HM.out _ HB3.out).mono ?_; rintro e w4 ⟨rfl, hb⟩; have hd := (hb.block _ (Array.getElem?_eq_some_iff.1 HD3.out).1).trans HD3.out; clear c0 c1; have c0 := (blk_cell hd 0).trans rfl; have c1 := (blk_cell hd 1).trans rfl; have HB4 := Aside0.mk (below_then HB3.out HB3.out.size hb); clear hb hd)
                | (go_at_call 77; refine (HW.out _ HB4.out (by simp)).mono ?_; rintro e w5 ⟨A5, c5, rfl, hc5, hC5, hb⟩; have HC5 := Aside0.mk hC5; have HB5 := Aside0.mk (below_then HB4.out HB4.out.size hb); clear hb hC5 hc5)
                | (go_at_call 71; refine (HN.out _ _ _ _ _ HC5.out HWL.out).mono ?_; rintro e w6 ⟨v6, rfl, hR, hb⟩; have HR6 := Aside0.mk (Kd.R_lower hR HB5.out.size); have HB6 := Aside0.mk (below_then HB5.out HB5.out.size hb); clear hb hR))
            go_ret2
            obtain ⟨h2, h0, hl⟩ := HQ.out
            have h2' : s2 = 0 := by simpa using h2
            have h0' : o = 0 := by simpa using h0
            have hl' : xs.length = 20 := by simp at hl; omega
            have hr := HRR.out
            rw [show (true && true) = true from rfl, if_pos rfl, if_pos h2', if_pos ⟨h0', hl'⟩] at hr
            obtain ⟨rfl, rfl⟩ := Prod.mk.injEq _ _ _ _ ▸ hr
            exact ⟨_, rfl, Kd.R_nil _ _ _ _ _, HB4.out⟩
          | false =>
            go_wp2_with (first
                | (go_at_call 70; refine (HR.out _ (below_alloc (Below.refl _ _) _)).mono ?_; rintro e w1 ⟨rfl, hb⟩; have hd := (hb.block _ (Array.getElem?_eq_some_iff.1 HD.out).1).trans HD.out; have c0 := (blk_cell hd 0).trans rfl; have c1 := (blk_cell hd 1).trans rfl; have HD1 := Aside0.mk hd; have HB := Aside0.mk (below_then (below_alloc (Below.refl _ _) _) (by simp) hb); clear hb hd)
                | (go_at_call 74; refine (HA.out _ (below_alloc HB.out _) _ (MapKept.heap_alloc _ _).1).mono ?_; rintro e w2 ⟨rfl, hb⟩; have hd := (hb.block _ (by have := (Array.getElem?_eq_some_iff.1 HD1.out).1; simp; omega)).trans (alloc_old (.cells #[.int .i64 n] 2) HD1.out); clear c0 c1; have c0 := (blk_cell hd 0).trans rfl; have c1 := (blk_cell hd 1).trans rfl; have HD2 := Aside0.mk hd; have HB2 := Aside0.mk (below_then (below_alloc HB.out _) (below_alloc HB.out _).size hb); clear hb hd)
                | (go_at_call 76; refine (HC.out _ HB2.out).mono ?_; rintro e w3 ⟨rfl, hb⟩; have hd := (hb.block _ (Array.getElem?_eq_some_iff.1 HD2.out).1).trans HD2.out; clear c0 c1; have c0 := (blk_cell hd 0).trans rfl; have c1 := (blk_cell hd 1).trans rfl; have HD3 := Aside0.mk hd; have HB3 := Aside0.mk (below_then HB2.out HB2.out.size hb); clear hb hd)
                | (go_at_call 83; refine (HM.out _ HB3.out).mono ?_; rintro e w4 ⟨rfl, hb⟩; have hd := (hb.block _ (Array.getElem?_eq_some_iff.1 HD3.out).1).trans HD3.out; clear c0 c1; have c0 := (blk_cell hd 0).trans rfl; have c1 := (blk_cell hd 1).trans rfl; have HB4 := Aside0.mk (below_then HB3.out HB3.out.size hb); clear hb hd)
                | (go_at_call 77; refine (HW.out _ HB4.out (by simp)).mono ?_; rintro e w5 ⟨A5, c5, rfl, hc5, hC5, hb⟩; have HC5 := Aside0.mk hC5; have HB5 := Aside0.mk (below_then HB4.out HB4.out.size hb); clear hb hC5 hc5)
                | (go_at_call 71; refine (HN.out _ _ _ _ _ HC5.out HWL.out).mono ?_; rintro e w6 ⟨v6, rfl, hR, hb⟩; have HR6 := Aside0.mk (Kd.R_lower hR HB5.out.size); have HB6 := Aside0.mk (below_then HB5.out HB5.out.size hb); clear hb hR))
            go_ret2
            obtain ⟨h2, h0, hl⟩ := HQ.out
            have h2' : s2 = 0 := by simpa using h2
            have hr := HRR.out
            rw [show (true && true) = true from rfl, if_pos rfl, if_pos h2', if_neg (by rintro ⟨e0, el⟩; simp [e0, el] at h0 hl)] at hr
            obtain ⟨rfl, rfl⟩ := Prod.mk.injEq _ _ _ _ ▸ hr
            exact ⟨v6, rfl, HR6.out, HB6.out⟩
        | false =>
          cases ql with
          | true =>
            go_wp2_with (first
                | (go_at_call 70; refine (HR.out _ (below_alloc (Below.refl _ _) _)).mono ?_; rintro e w1 ⟨rfl, hb⟩; have hd := (hb.block _ (Array.getElem?_eq_some_iff.1 HD.out).1).trans HD.out; have c0 := (blk_cell hd 0).trans rfl; have c1 := (blk_cell hd 1).trans rfl; have HD1 := Aside0.mk hd; have HB := Aside0.mk (below_then (below_alloc (Below.refl _ _) _) (by simp) hb); clear hb hd)
                | (go_at_call 74; refine (HA.out _ (below_alloc HB.out _) _ (MapKept.heap_alloc _ _).1).mono ?_; rintro e w2 ⟨rfl, hb⟩; have hd := (hb.block _ (by have := (Array.getElem?_eq_some_iff.1 HD1.out).1; simp; omega)).trans (alloc_old (.cells #[.int .i64 n] 2) HD1.out); clear c0 c1; have c0 := (blk_cell hd 0).trans rfl; have c1 := (blk_cell hd 1).trans rfl; have HD2 := Aside0.mk hd; have HB2 := Aside0.mk (below_then (below_alloc HB.out _) (below_alloc HB.out _).size hb); clear hb hd)
                | (go_at_call 76; refine (HC.out _ HB2.out).mono ?_; rintro e w3 ⟨rfl, hb⟩; have hd := (hb.block _ (Array.getElem?_eq_some_iff.1 HD2.out).1).trans HD2.out; clear c0 c1; have c0 := (blk_cell hd 0).trans rfl; have c1 := (blk_cell hd 1).trans rfl; have HD3 := Aside0.mk hd; have HB3 := Aside0.mk (below_then HB2.out HB2.out.size hb); clear hb hd)
                | (go_at_call 83; refine (HM.out _ HB3.out).mono ?_; rintro e w4 ⟨rfl, hb⟩; have hd := (hb.block _ (Array.getElem?_eq_some_iff.1 HD3.out).1).trans HD3.out; clear c0 c1; have c0 := (blk_cell hd 0).trans rfl; have c1 := (blk_cell hd 1).trans rfl; have HB4 := Aside0.mk (below_then HB3.out HB3.out.size hb); clear hb hd)
                | (go_at_call 77; refine (HW.out _ HB4.out (by simp)).mono ?_; rintro e w5 ⟨A5, c5, rfl, hc5, hC5, hb⟩; have HC5 := Aside0.mk hC5; have HB5 := Aside0.mk (below_then HB4.out HB4.out.size hb); clear hb hC5 hc5)
                | (go_at_call 71; refine (HN.out _ _ _ _ _ HC5.out HWL.out).mono ?_; rintro e w6 ⟨v6, rfl, hR, hb⟩; have HR6 := Aside0.mk (Kd.R_lower hR HB5.out.size); have HB6 := Aside0.mk (below_then HB5.out HB5.out.size hb); clear hb hR))
            go_ret2
            obtain ⟨h2, h0, hl⟩ := HQ.out
            have h2' : s2 = 0 := by simpa using h2
            have hr := HRR.out
            rw [show (true && true) = true from rfl, if_pos rfl, if_pos h2', if_neg (by rintro ⟨e0, el⟩; simp [e0, el] at h0 hl)] at hr
            obtain ⟨rfl, rfl⟩ := Prod.mk.injEq _ _ _ _ ▸ hr
            exact ⟨v6, rfl, HR6.out, HB6.out⟩
          | false =>
            go_wp2_with (first
                | (go_at_call 70; refine (HR.out _ (below_alloc (Below.refl _ _) _)).mono ?_; rintro e w1 ⟨rfl, hb⟩; have hd := (hb.block _ (Array.getElem?_eq_some_iff.1 HD.out).1).trans HD.out; have c0 := (blk_cell hd 0).trans rfl; have c1 := (blk_cell hd 1).trans rfl; have HD1 := Aside0.mk hd; have HB := Aside0.mk (below_then (below_alloc (Below.refl _ _) _) (by simp) hb); clear hb hd)
                | (go_at_call 74; refine (HA.out _ (below_alloc HB.out _) _ (MapKept.heap_alloc _ _).1).mono ?_; rintro e w2 ⟨rfl, hb⟩; have hd := (hb.block _ (by have := (Array.getElem?_eq_some_iff.1 HD1.out).1; simp; omega)).trans (alloc_old (.cells #[.int .i64 n] 2) HD1.out); clear c0 c1; have c0 := (blk_cell hd 0).trans rfl; have c1 := (blk_cell hd 1).trans rfl; have HD2 := Aside0.mk hd; have HB2 := Aside0.mk (below_then (below_alloc HB.out _) (below_alloc HB.out _).size hb); clear hb hd)
                | (go_at_call 76; refine (HC.out _ HB2.out).mono ?_; rintro e w3 ⟨rfl, hb⟩; have hd := (hb.block _ (Array.getElem?_eq_some_iff.1 HD2.out).1).trans HD2.out; clear c0 c1; have c0 := (blk_cell hd 0).trans rfl; have c1 := (blk_cell hd 1).trans rfl; have HD3 := Aside0.mk hd; have HB3 := Aside0.mk (below_then HB2.out HB2.out.size hb); clear hb hd)
                | (go_at_call 83; refine (HM.out _ HB3.out).mono ?_; rintro e w4 ⟨rfl, hb⟩; have hd := (hb.block _ (Array.getElem?_eq_some_iff.1 HD3.out).1).trans HD3.out; clear c0 c1; have c0 := (blk_cell hd 0).trans rfl; have c1 := (blk_cell hd 1).trans rfl; have HB4 := Aside0.mk (below_then HB3.out HB3.out.size hb); clear hb hd)
                | (go_at_call 77; refine (HW.out _ HB4.out (by simp)).mono ?_; rintro e w5 ⟨A5, c5, rfl, hc5, hC5, hb⟩; have HC5 := Aside0.mk hC5; have HB5 := Aside0.mk (below_then HB4.out HB4.out.size hb); clear hb hC5 hc5)
                | (go_at_call 71; refine (HN.out _ _ _ _ _ HC5.out HWL.out).mono ?_; rintro e w6 ⟨v6, rfl, hR, hb⟩; have HR6 := Aside0.mk (Kd.R_lower hR HB5.out.size); have HB6 := Aside0.mk (below_then HB5.out HB5.out.size hb); clear hb hR))
            go_ret2
            obtain ⟨h2, h0, hl⟩ := HQ.out
            have h2' : s2 = 0 := by simpa using h2
            have hr := HRR.out
            rw [show (true && true) = true from rfl, if_pos rfl, if_pos h2', if_neg (by rintro ⟨e0, el⟩; simp [e0, el] at h0 hl)] at hr
            obtain ⟨rfl, rfl⟩ := Prod.mk.injEq _ _ _ _ ▸ hr
            exact ⟨v6, rfl, HR6.out, HB6.out⟩

end Go.Proofs.YtoclldkgkmhgaaaDoor.K

namespace Go.Proofs.YtoclldkgkmhgaaaDoor.K
open Go.RowKit Go.Proofs.YtoclldkgkmhgaaaDoorW.PrintWords Go.Proofs.YtoclldkgkmhgaaaDoorW.PrintLast Go.ChangeShapes Go.WideShapes
set_option linter.unusedVariables false

end Go.Proofs.YtoclldkgkmhgaaaDoor.K

namespace Go.Proofs.YtoclldkgkmhgaaaDoor.K
open Go.RowKit Go.Proofs.YtoclldkgkmhgaaaDoorW.PrintWords Go.Proofs.YtoclldkgkmhgaaaDoorW.PrintLast Go.ChangeShapes Go.WideShapes Go.Joins Go.Deep
set_option linter.unusedVariables false

theorem cells_u16 : Tryd.prog.cellsOf 23 = 1 := by kernel_rfl
theorem cells_u32 : Tryd.prog.cellsOf 22 = 1 := by kernel_rfl
theorem cells_i64 : Tryd.prog.cellsOf 2 = 1 := by kernel_rfl
theorem cells_st : Tryd.prog.cellsOf 25 = 2 := by kernel_rfl
theorem cells_li : Tryd.prog.cellsOf 49 = 4 := by kernel_rfl

theorem four_cells {P : Program} {w : World} {r : Reach} {b0 : Nat} {t : TypeId} {fs : Array Field} {v : Value} (hs : P.underlying t = some (.struct fs)) (hC : P.cellsOf t = 4) (hv : Value.okWide P w r b0 t v) : ∃ c0 c1 c2 c3, v = .agg #[c0, c1, c2, c3] := by
  obtain ⟨cs, rfl, hsz⟩ := okWide_struct hs hv
  obtain ⟨l⟩ := cs
  match l, hsz.trans hC with
  | [c0, c1, c2, c3], _ => exact ⟨c0, c1, c2, c3, rfl⟩
/-- A field's reading. -/
theorem field_of {H : Type} {enc : TypeId × Value → H} {P : Program} {w : World} {base fuel : Nat} {spare : Nat → Bool} {held : Bool} {t : TypeId} {cs : List Value} {x : DataW H × List MemPlace} {fs : Array Field} (ht : P.underlying t = some (.struct fs)) (h : DataW.trod enc P w base spare held fuel t cs = some x)
    (j : Nat) (f : Field) (hj : fs[j]? = some f) {t' o m : Nat} (hty : f.type = t') (ho : f.offset = o) (hc : P.cellsOf t' = m) : ∃ n y, DataW.trod enc P w base spare held n t' ((cs.drop o).take m) = some y := by
  obtain ⟨xs, n, _, _, _, hl, hg⟩ := DataW.trod_struct ht h
  have hlt : j < fs.size := (Array.getElem?_eq_some_iff.1 hj).1
  subst hty ho hc
  exact ⟨n, _, (hg j f hj).trans (List.getElem?_eq_getElem (by omega))⟩
theorem int_of {H : Type} {enc : TypeId × Value → H} {P : Program} {w : World} {base n : Nat} {spare : Nat → Bool} {held : Bool} {t : TypeId} {k : IntKind} (ht : P.underlying t = some (.int k)) {c : Value} {y : DataW H × List MemPlace} (h : DataW.trod enc P w base spare held n t [c] = some y) : ∃ i, c = .int k i := by
  obtain ⟨z, e, _, _⟩ := DataW.trod_int ht h
  simp only [List.cons.injEq, and_true] at e
  exact ⟨z, e⟩
theorem two_of {H : Type} {enc : TypeId × Value → H} {w : World} {base n : Nat} {spare : Nat → Bool} {held : Bool} {a b : Value} {x : DataW H × List MemPlace} (h : DataW.trod enc Tryd.prog w base spare held n 25 [a, b] = some x) : ∃ i j, a = .int .u16 i ∧ b = .int .i64 j := by
  obtain ⟨n0, y0, g0⟩ := field_of Tryd.underlying25 h 0 _ rfl rfl rfl cells_u16
  obtain ⟨n1, y1, g1⟩ := field_of Tryd.underlying25 h 1 _ rfl rfl rfl cells_i64
  obtain ⟨i, rfl⟩ := int_of Tryd.underlying23 g0
  obtain ⟨j, rfl⟩ := int_of Tryd.underlying2 g1
  exact ⟨i, j, rfl, rfl⟩
set_option maxRecDepth 100000 in
theorem open_listing {H : Type} {enc : TypeId × Value → H} {w : World} {base : Nat} {spare : Nat → Bool} {held : Bool} {r : Reach} {b0 : Nat} {v : Value} {d : DataW H} {p : List MemPlace} (hv : Value.okWide Tryd.prog w r b0 49 v) (h : DataW.Trod enc Tryd.prog w base spare held 49 v d p) :
    ∃ m0 m1 m2 m3 : Int, v = .agg #[.int .u32 m0, .int .u16 m1, .int .i64 m2, .int .i64 m3] := by
  obtain ⟨c0, c1, c2, c3, rfl⟩ := four_cells Tryd.underlying49 cells_li hv
  obtain ⟨fuel, hf⟩ := h
  obtain ⟨n0, y0, g0⟩ := field_of Tryd.underlying49 hf 0 _ rfl rfl rfl cells_u32
  obtain ⟨n1, y1, g1⟩ := field_of Tryd.underlying49 hf 1 _ rfl rfl rfl cells_st
  obtain ⟨n2, y2, g2⟩ := field_of Tryd.underlying49 hf 2 _ rfl rfl rfl cells_i64
  obtain ⟨m0, rfl⟩ := int_of Tryd.underlying22 g0
  obtain ⟨m1, m2, rfl, rfl⟩ := two_of g1
  obtain ⟨m3, rfl⟩ := int_of Tryd.underlying2 g2
  exact ⟨m0, m1, m2, m3, rfl⟩
end Go.Proofs.YtoclldkgkmhgaaaDoor.K
