-- Printed by a program of this session (a turned copy of the print); what it takes as given stands in the seat's own texts.
import Derived.Test.YtgnjodocggihoaaDoorGx0
import Derived.Test.YtgnjodocggihoaaDoorGx13
import Derived.Test.YtgnjodocggihoaaDoorGx14
import Derived.Test.YtgnjodocggihoaaDoorGAll
namespace Go.Proofs.YtgnjodocggihoaaDoor.G
open Go.Proofs.YtgnjodocggihoaaDoor.K (Laid Laid_below)
open Go.RowKit Go.Proofs.YtgnjodocggihoaaDoorW.PrintWords Go.Proofs.YtgnjodocggihoaaDoorW.PrintLast Go.Proofs.YtgnjodocggihoaaDoorW.PrintMore
attribute [local go_sem] max2_int min2_int max_two min_two max_three min_three max_four min_four   -- for this text's walks alone
set_option linter.unusedVariables false
set_option linter.unusedSimpArgs false

/-! ### bazaarlaw12_GoodsOwn: function 10 -/
mutual
def bazaarlaw12_GoodsOwn.l0 : Nat → List (S42) → Bool → List (S42) → List (S42) → Int → Int → Int → Option (Bool)
  | 0, _, _, _, _, _, _, _ => none
  | k + 1, x0, x5, x6, x7, x9, x204000, x204001 => if x9 < (x7.length : Int) then (if 0 ≤ x9 then (bazaarlaw12_GoodsOwn.l0 k x0 x5 x6 (x7.set (x9 : Int).toNat (⟨(rd_T42 x7 x9).f0, (-1)⟩ : S42)) (wrap64 (x9 + 1)) x204000 x204001) else (none)) else ((goods_Take.f x0 x204000 x204001).bind fun bt216 => (bazaarlaw12_GoodsOwn.l1 k x0 x5 x6 bt216.1 0))
def bazaarlaw12_GoodsOwn.l1 : Nat → List (S42) → Bool → List (S42) → List (S42) → Int → Option (Bool)
  | 0, _, _, _, _, _ => none
  | k + 1, x0, x5, x6, x10, x12 => if x12 < (x10.length : Int) then (if 0 ≤ x12 then (bazaarlaw12_GoodsOwn.l1 k x0 x5 x6 (x10.set (x12 : Int).toNat (⟨(rd_T42 x10 x12).f0, (-1)⟩ : S42)) (wrap64 (x12 + 1))) else (none)) else (if x5 = true then ((bazaarref12_Same.f k x0 x6).bind fun t221 => (some t221)) else (some false))
end
def bazaarlaw12_GoodsOwn.f (k : Nat) (l0 : List (S42)) (a1_0 : Int) (a1_1 : Int) : Option (Bool) := (bazaarlaw12_shown.f k).bind fun t204 => ((bazaarlaw12_cut.f l0).bind fun t205 => ((bazaarlaw12_cut.f t205).bind fun t208 => ((goods_Give.f t205 a1_0 a1_1).bind fun bt211 => (bazaarlaw12_GoodsOwn.l0 k t205 t204 t208 bt211.1 0 a1_0 a1_1))))
theorem bazaarlaw12_GoodsOwn.mono_l : ∀ k, (∀ y0 y1 y2 y3 y4 y5 y6, LeO (bazaarlaw12_GoodsOwn.l0 k y0 y1 y2 y3 y4 y5 y6) (bazaarlaw12_GoodsOwn.l0 (k + 1) y0 y1 y2 y3 y4 y5 y6)) ∧ (∀ y0 y1 y2 y3 y4, LeO (bazaarlaw12_GoodsOwn.l1 k y0 y1 y2 y3 y4) (bazaarlaw12_GoodsOwn.l1 (k + 1) y0 y1 y2 y3 y4))
  | 0 => ⟨fun _ _ _ _ _ _ _ r h => by simp [bazaarlaw12_GoodsOwn.l0] at h, fun _ _ _ _ _ r h => by simp [bazaarlaw12_GoodsOwn.l1] at h⟩
  | k + 1 => by
    obtain ⟨ih0, ih1⟩ := bazaarlaw12_GoodsOwn.mono_l k
    refine ⟨?_, ?_⟩
    · intro y0 y1 y2 y3 y4 y5 y6
      unfold bazaarlaw12_GoodsOwn.l0
      repeat' first
      | (with_reducible exact ih0 _ _ _ _ _ _ _)
      | (with_reducible exact ih1 _ _ _ _ _)
      | (with_reducible exact bazaarlaw12_shown.mono _)
      | (with_reducible exact bazaarref12_Same.mono _ _ _)
      | (with_reducible exact LeO.refl _)
      | (with_reducible exact LeO.none _)
      | (with_reducible refine LeO.ite ?_ ?_)
      | (with_reducible refine LeO.bind ?_ (fun _ => ?_))
      | exact ih0 _ _ _ _ _ _ _
      | exact ih1 _ _ _ _ _
      | exact bazaarlaw12_shown.mono _
      | exact bazaarref12_Same.mono _ _ _
      | exact LeO.none _
      | refine LeO.ite ?_ ?_
      | refine LeO.bind ?_ (fun _ => ?_)
    · intro y0 y1 y2 y3 y4
      unfold bazaarlaw12_GoodsOwn.l1
      repeat' first
      | (with_reducible exact ih0 _ _ _ _ _ _ _)
      | (with_reducible exact ih1 _ _ _ _ _)
      | (with_reducible exact bazaarlaw12_shown.mono _)
      | (with_reducible exact bazaarref12_Same.mono _ _ _)
      | (with_reducible exact LeO.refl _)
      | (with_reducible exact LeO.none _)
      | (with_reducible refine LeO.ite ?_ ?_)
      | (with_reducible refine LeO.bind ?_ (fun _ => ?_))
      | exact ih0 _ _ _ _ _ _ _
      | exact ih1 _ _ _ _ _
      | exact bazaarlaw12_shown.mono _
      | exact bazaarref12_Same.mono _ _ _
      | exact LeO.none _
      | refine LeO.ite ?_ ?_
      | refine LeO.bind ?_ (fun _ => ?_)
theorem bazaarlaw12_GoodsOwn.mono : ∀ a0 a1 a2 k, LeO (bazaarlaw12_GoodsOwn.f k a0 a1 a2) (bazaarlaw12_GoodsOwn.f (k + 1) a0 a1 a2) := by
  intro a0 a1 a2 k
  obtain ⟨ih0, ih1⟩ := bazaarlaw12_GoodsOwn.mono_l k
  unfold bazaarlaw12_GoodsOwn.f
  repeat' first
      | (with_reducible exact ih0 _ _ _ _ _ _ _)
      | (with_reducible exact ih1 _ _ _ _ _)
      | (with_reducible exact bazaarlaw12_shown.mono _)
      | (with_reducible exact bazaarref12_Same.mono _ _ _)
      | (with_reducible exact LeO.refl _)
      | (with_reducible exact LeO.none _)
      | (with_reducible refine LeO.ite ?_ ?_)
      | (with_reducible refine LeO.bind ?_ (fun _ => ?_))
      | exact ih0 _ _ _ _ _ _ _
      | exact ih1 _ _ _ _ _
      | exact bazaarlaw12_shown.mono _
      | exact bazaarref12_Same.mono _ _ _
      | exact LeO.none _
      | refine LeO.ite ?_ ?_
      | refine LeO.bind ?_ (fun _ => ?_)
set_option maxHeartbeats 8000000 in
set_option maxRecDepth 100000 in
theorem bazaarlaw12_GoodsOwn.calls (k : Nat) (A0 : Option Addr) (c0 : Nat) (l0 : List (S42)) (a1_0 : Int) (a1_1 : Int) (r : Bool) (w : World) (hL : Laid w) (hr0 : Kd.C k42 w A0 l0.length l0) (hc0 : l0.length ≤ c0) (h : bazaarlaw12_GoodsOwn.f k l0 a1_0 a1_1 = some r) :
    Calls Tryd.prog 10 #[.slice A0 l0.length c0, .agg #[.int .u16 a1_0, .int .i64 a1_1]] w fun e w' => e = .returned (.bool r) ∧ Below w.heap.size w w' := by
  have hu42 := Tryd.underlying42
  have HLD := Aside0.mk hL
  clear hL
  have HR0 := Aside0.mk hr0
  have HC0 := Aside0.mk hc0
  clear hr0 hc0
  have HB := Aside0.mk (Below.refl w.heap.size w)
  have H : ((bazaarlaw12_shown.f k).bind fun t204 => ((bazaarlaw12_cut.f l0).bind fun t205 => ((bazaarlaw12_cut.f t205).bind fun t208 => ((goods_Give.f t205 a1_0 a1_1).bind fun bt211 => (bazaarlaw12_GoodsOwn.l0 k t205 t204 t208 bt211.1 0 a1_0 a1_1))))) = some r := h
  clear h
  replace H := Option.bind_eq_some_iff.mp H
  obtain ⟨t204, A30, H⟩ := H
  replace H : ((bazaarlaw12_cut.f l0).bind fun t205 => ((bazaarlaw12_cut.f t205).bind fun t208 => ((goods_Give.f t205 a1_0 a1_1).bind fun bt211 => (bazaarlaw12_GoodsOwn.l0 k t205 t204 t208 bt211.1 0 a1_0 a1_1)))) = some r := H
  have A3 := Aside0.mk A30
  clear A30
  replace H := Option.bind_eq_some_iff.mp H
  obtain ⟨t205, A40, H⟩ := H
  replace H : ((bazaarlaw12_cut.f t205).bind fun t208 => ((goods_Give.f t205 a1_0 a1_1).bind fun bt211 => (bazaarlaw12_GoodsOwn.l0 k t205 t204 t208 bt211.1 0 a1_0 a1_1))) = some r := H
  have A4 := Aside0.mk A40
  clear A40
  replace H := Option.bind_eq_some_iff.mp H
  obtain ⟨t208, A50, H⟩ := H
  replace H : ((goods_Give.f t205 a1_0 a1_1).bind fun bt211 => (bazaarlaw12_GoodsOwn.l0 k t205 t204 t208 bt211.1 0 a1_0 a1_1)) = some r := H
  have A5 := Aside0.mk A50
  clear A50
  replace H := Option.bind_eq_some_iff.mp H
  obtain ⟨⟨t211, t214⟩, A60, H⟩ := H
  replace H : (bazaarlaw12_GoodsOwn.l0 k t205 t204 t208 t211 0 a1_0 a1_1) = some r := H
  have A6 := Aside0.mk A60
  clear A60
  have H' := Aside0.mk H
  clear H
  go_enter Tryd.func10, Tryd.ntmps10
  go_wp2_with (first | ((with_reducible refine gate_dst (N := 3) rfl ?_); refine box_event ?hg (N := 3) ?hd (cs := #[.int .u16 a1_0, .int .i64 a1_1]) (t := 42) ?hr ?_; (case hd => rfl); (case hg => rfl); (case hr => first | (go_simp; done) | (go_simp; rfl)); intro gb203 hg w7 hbox hb; have n0_ := Aside0.mk (below_step (by repeat (first | (with_reducible first | exact HB.out | apply below_alloc | apply pw_below_drewN | apply below_drew1) | exact HB.out)) hb); have n1_ := Aside0.mk (hbox); have n2_ := Aside0.mk ((by rw [hg]; exact (below_size (by repeat (first | (with_reducible first | exact HB.out | apply below_alloc | apply pw_below_drewN | apply below_drew1) | exact HB.out))) : w.heap.size ≤ gb203)); have n3_ := Aside0.mk ((by rw [hg]; exact (below_size (by repeat (first | (with_reducible first | exact HB.out | apply below_alloc | apply pw_below_drewN | apply below_drew1) | exact HB.out))) : w.heap.size ≤ gb203)); clear HB; have HB := n0_; have BK203 := n1_; have GW203 := n2_; have GE203 := n3_; clear n0_ n1_ n2_ n3_; clear hb hbox hg) | ((with_reducible refine gate_callee (f := 33) rfl ?_); refine goesL_ (some 13) rfl rfl Tryd.func33 (by kernel_rfl) rfl #[] rfl (by (try simp only [List.map_toArray, List.map_cons, List.map_nil]); first | done | rfl | (simp only [List.length_drop, List.length_take]; rfl)) ?_; (with_reducible refine (bazaarlaw12_shown.calls k  t204 _ ?side1 A3.out).mono ?_); (case side1 => exact Laid_below HLD.out (by repeat (first | (with_reducible first | exact HB.out | apply below_alloc | apply pw_below_drewN | apply below_drew1 | refine below_set ?_ GE203.out) | exact HB.out))); rintro e w8 ⟨rfl, hb⟩; refine ⟨_, rfl, ?_⟩; have n0_ := Aside0.mk (blk_below (g := gb203) (o := .cells #[.int .u16 a1_0, .int .i64 a1_1] 42 (0, 0)) (by (with_reducible repeat (first | refine blk_drewN ?_ _ | refine blk_drew ?_ | refine blk_alloc ?_ _)); exact BK203.out) hb); have n1_ := Aside0.mk (below_step (by repeat (first | (with_reducible first | exact HB.out | apply below_alloc | apply pw_below_drewN | apply below_drew1 | refine below_set ?_ GE203.out) | exact HB.out)) hb); clear BK203; clear HB; have BK203 := n0_; have HB := n1_; clear n0_ n1_; (try clear hb); (try clear hb2); (try clear hk); (try clear hi)) | ((with_reducible refine gate_callee (f := 34) rfl ?_); refine goesL_ (some 15) rfl rfl Tryd.func34 (by kernel_rfl) rfl #[.slice A0 l0.length c0] rfl (by (try simp only [List.map_toArray, List.map_cons, List.map_nil]); first | done | rfl | (simp only [List.length_drop, List.length_take]; rfl)) ?_; (with_reducible refine (bazaarlaw12_cut.calls _ _ l0 t205 _ ?side1 ?side2 ?side3 A4.out).mono ?_); (case side1 => exact Laid_below HLD.out (by repeat (first | (with_reducible first | exact HB.out | apply below_alloc | apply pw_below_drewN | apply below_drew1 | refine below_set ?_ GE203.out) | exact HB.out))); (case side2 => repeat (first | exact (Kd.C_below HR0.out HB.out) | (with_reducible refine Kd.C_alloc ?_ _) | (with_reducible refine Kd.C_drewN ?_ _) | (with_reducible refine Kd.C_drew ?_))); (case side3 => exact HC0.out); rintro e w9 ⟨v206, rfl, ho0, hb⟩; refine ⟨_, rfl, ?_⟩; have n0_ := Aside0.mk (Kd.R_lower (Kd.R_newB ho0 (g := gb203) (o := .cells #[.int .u16 a1_0, .int .i64 a1_1] 42 (0, 0)) (by (with_reducible repeat (first | refine blk_drewN ?_ _ | refine blk_drew ?_ | refine blk_alloc ?_ _)); exact BK203.out)) (below_size (by repeat (first | (with_reducible first | exact HB.out | apply below_alloc | apply pw_below_drewN | apply below_drew1 | refine below_set ?_ GE203.out) | exact HB.out)))); have n1_ := Aside0.mk (blk_below (g := gb203) (o := .cells #[.int .u16 a1_0, .int .i64 a1_1] 42 (0, 0)) (by (with_reducible repeat (first | refine blk_drewN ?_ _ | refine blk_drew ?_ | refine blk_alloc ?_ _)); exact BK203.out) hb); have n2_ := Aside0.mk (below_step (by repeat (first | (with_reducible first | exact HB.out | apply below_alloc | apply pw_below_drewN | apply below_drew1 | refine below_set ?_ GE203.out) | exact HB.out)) hb); clear BK203; clear HB; have HO207 := n0_; have BK203 := n1_; have HB := n2_; clear n0_ n1_ n2_; (try clear hb); (try clear hb2); (try clear hk); (try clear hi); (try clear ho0); obtain ⟨Ao10, co10, eo10⟩ := Kd.R_slice HO207.out; subst eo10) | ((with_reducible refine gate_callee (f := 34) rfl ?_); refine goesL_ (some 17) rfl rfl Tryd.func34 (by kernel_rfl) rfl #[.slice Ao10 t205.length co10] rfl (by (try simp only [List.map_toArray, List.map_cons, List.map_nil]); first | done | rfl | (simp only [List.length_drop, List.length_take]; rfl)) ?_; (with_reducible refine (bazaarlaw12_cut.calls _ _ t205 t208 _ ?side1 ?side2 ?side3 A5.out).mono ?_); (case side1 => exact Laid_below HLD.out (by repeat (first | (with_reducible first | exact HB.out | apply below_alloc | apply pw_below_drewN | apply below_drew1 | refine below_set ?_ GE203.out) | exact HB.out))); (case side2 => repeat (first | exact (Kd.R_reads' HO207.out).2.2 | (with_reducible refine Kd.C_alloc ?_ _) | (with_reducible refine Kd.C_drewN ?_ _) | (with_reducible refine Kd.C_drew ?_))); (case side3 => exact (Kd.R_reads' HO207.out).2.1); rintro e w11 ⟨v209, rfl, ho0, hb⟩; refine ⟨_, rfl, ?_⟩; have n0_ := Aside0.mk (Kd.R_elder' (by (with_reducible repeat (first | apply Kd.R_alloc | apply Kd.R_drewN | apply Kd.R_drew)); exact HO207.out) (Kd.R_base ho0) hb); have n1_ := Aside0.mk (Kd.R_lower (Kd.R_newB (Kd.R_new' ho0 (Kd.R_lt (by (with_reducible repeat (first | apply Kd.R_alloc | apply Kd.R_drewN | apply Kd.R_drew)); exact HO207.out))) (g := gb203) (o := .cells #[.int .u16 a1_0, .int .i64 a1_1] 42 (0, 0)) (by (with_reducible repeat (first | refine blk_drewN ?_ _ | refine blk_drew ?_ | refine blk_alloc ?_ _)); exact BK203.out)) (below_size (by repeat (first | (with_reducible first | exact HB.out | apply below_alloc | apply pw_below_drewN | apply below_drew1 | refine below_set ?_ GE203.out) | exact HB.out)))); have n2_ := Aside0.mk (blk_below (g := gb203) (o := .cells #[.int .u16 a1_0, .int .i64 a1_1] 42 (0, 0)) (by (with_reducible repeat (first | refine blk_drewN ?_ _ | refine blk_drew ?_ | refine blk_alloc ?_ _)); exact BK203.out) hb); have n3_ := Aside0.mk (below_step (by repeat (first | (with_reducible first | exact HB.out | apply below_alloc | apply pw_below_drewN | apply below_drew1 | refine below_set ?_ GE203.out) | exact HB.out)) hb); clear HO207; clear BK203; clear HB; have HO207 := n0_; have HO210 := n1_; have BK203 := n2_; have HB := n3_; clear n0_ n1_ n2_ n3_; (try clear hb); (try clear hb2); (try clear hk); (try clear hi); (try clear ho0); have hcz12_0 : w11.cell? ⟨gb203, 0, none⟩ = some (.int .u16 a1_0) := (blk_cell BK203.out 0).trans rfl; have hcz12_1 : w11.cell? ⟨gb203, 1, none⟩ = some (.int .i64 a1_1) := (blk_cell BK203.out 1).trans rfl; have hfz12_0 := blk_frozen BK203.out 0; have hfz12_1 := blk_frozen BK203.out 1) | ((with_reducible refine gate_callee (f := 35) rfl ?_); refine goesL_ (some 21) rfl rfl Tryd.func35 (by kernel_rfl) rfl #[.slice Ao10 t205.length co10, .agg #[.int .u16 a1_0, .int .i64 a1_1]] rfl (by (try simp only [List.map_toArray, List.map_cons, List.map_nil]); first | done | rfl | (simp only [List.length_drop, List.length_take]; rfl)) ?_; (with_reducible refine (goods_Give.calls _ _ t205 a1_0 a1_1 t211 t214 _ ?side1 ?side2 ?side3 A6.out).mono ?_); (case side1 => exact Laid_below HLD.out (by repeat (first | (with_reducible first | exact HB.out | apply below_alloc | apply pw_below_drewN | apply below_drew1 | refine below_set ?_ GE203.out) | exact HB.out))); (case side2 => repeat (first | exact (Kd.R_reads' HO207.out).2.2 | (with_reducible refine Kd.C_alloc ?_ _) | (with_reducible refine Kd.C_drewN ?_ _) | (with_reducible refine Kd.C_drew ?_))); (case side3 => exact (Kd.R_reads' HO207.out).2.1); rintro e w13 ⟨v212, rfl, ho0, hb⟩; refine ⟨_, rfl, ?_⟩; have n0_ := Aside0.mk (Kd.R_elder' (by (with_reducible repeat (first | apply Kd.R_alloc | apply Kd.R_drewN | apply Kd.R_drew)); exact HO207.out) (Kd.R_base ho0) hb); have n1_ := Aside0.mk (Kd.R_elder' (by (with_reducible repeat (first | apply Kd.R_alloc | apply Kd.R_drewN | apply Kd.R_drew)); exact HO210.out) (Kd.R_base ho0) hb); have n2_ := Aside0.mk (Kd.R_lower (Kd.R_newB (Kd.R_new' (Kd.R_new' ho0 (Kd.R_lt (by (with_reducible repeat (first | apply Kd.R_alloc | apply Kd.R_drewN | apply Kd.R_drew)); exact HO207.out))) (Kd.R_lt (by (with_reducible repeat (first | apply Kd.R_alloc | apply Kd.R_drewN | apply Kd.R_drew)); exact HO210.out))) (g := gb203) (o := .cells #[.int .u16 a1_0, .int .i64 a1_1] 42 (0, 0)) (by (with_reducible repeat (first | refine blk_drewN ?_ _ | refine blk_drew ?_ | refine blk_alloc ?_ _)); exact BK203.out)) (below_size (by repeat (first | (with_reducible first | exact HB.out | apply below_alloc | apply pw_below_drewN | apply below_drew1 | refine below_set ?_ GE203.out) | exact HB.out)))); have n3_ := Aside0.mk (blk_below (g := gb203) (o := .cells #[.int .u16 a1_0, .int .i64 a1_1] 42 (0, 0)) (by (with_reducible repeat (first | refine blk_drewN ?_ _ | refine blk_drew ?_ | refine blk_alloc ?_ _)); exact BK203.out) hb); have n4_ := Aside0.mk (below_step (by repeat (first | (with_reducible first | exact HB.out | apply below_alloc | apply pw_below_drewN | apply below_drew1 | refine below_set ?_ GE203.out) | exact HB.out)) hb); clear HO207; clear HO210; clear BK203; clear HB; have HO207 := n0_; have HO210 := n1_; have HO213 := n2_; have BK203 := n3_; have HB := n4_; clear n0_ n1_ n2_ n3_ n4_; (try clear hb); (try clear hb2); (try clear hk); (try clear hi); (try clear ho0)))
  go_loopg [9] k (fun kq v9 w' => ∃ (x7_1 : List (S42)) (x9_1 : Int) (x204001_1 : Int), v9 = .int .i64 x9_1 ∧ Aside0 (bazaarlaw12_GoodsOwn.l0 kq t205 t204 t208 x7_1 x9_1 a1_0 x204001_1 = some r) ∧ Aside0 (kq ≤ k) ∧ Aside0 (Kd.R k42 42 w' w.heap.size (fun k_ => some k_ ≠ (v209 : Value).ownBlock ∧ some k_ ≠ (v212 : Value).ownBlock ∧ k_ ≠ gb203) (.slice Ao10 t205.length co10) t205) ∧ Aside0 (Kd.R k42 42 w' w.heap.size (fun k_ => some k_ ≠ ((.slice Ao10 t205.length co10) : Value).ownBlock ∧ some k_ ≠ (v212 : Value).ownBlock ∧ k_ ≠ gb203) v209 t208) ∧ Aside0 (Kd.R k42 42 w' w.heap.size (fun k_ => some k_ ≠ ((.slice Ao10 t205.length co10) : Value).ownBlock ∧ some k_ ≠ (v209 : Value).ownBlock ∧ k_ ≠ gb203) v212 x7_1) ∧ Aside0 (w'.heap[gb203]? = some (.cells #[.int .u16 a1_0, .int .i64 x204001_1] 42 (0, 0))) ∧ Aside0 (Below w.heap.size w w'))
  case atStart => exact ⟨(t211), (0), (a1_1), (by first | rfl | (simp; done) | (simp [*]; done)), H', ⟨Nat.le_refl _⟩, ⟨by (with_reducible repeat (first | apply Kd.R_alloc | apply Kd.R_drewN | apply Kd.R_drew)); exact Kd.R_mono HO207.out (fun _ hk => ⟨hk.1.2, ⟨hk.2, hk.1.1.2⟩⟩)⟩, ⟨by (with_reducible repeat (first | apply Kd.R_alloc | apply Kd.R_drewN | apply Kd.R_drew)); exact Kd.R_mono HO210.out (fun _ hk => ⟨hk.1.1.2, ⟨hk.2, hk.1.2⟩⟩)⟩, ⟨by (with_reducible repeat (first | apply Kd.R_alloc | apply Kd.R_drewN | apply Kd.R_drew)); exact Kd.R_mono HO213.out (fun _ hk => ⟨hk.1.1.2, ⟨hk.1.2, hk.2⟩⟩)⟩, ⟨by (with_reducible repeat (first | refine blk_drewN ?_ _ | refine blk_drew ?_ | refine blk_alloc ?_ _)); exact BK203.out⟩, ⟨by repeat (first | (with_reducible first | exact HB.out | apply below_alloc | apply pw_below_drewN | apply below_drew1 | refine below_set ?_ GE203.out) | exact HB.out)⟩⟩
  case round =>
    clear H'
    try clear c1
    try clear p2
    try clear c3
    try clear c10
    try clear hcz12_0
    try clear hcz12_1
    try clear hfz12_0
    try clear hfz12_1
    obtain ⟨x7_1, x9_1, x204001_1, rfl, HA, HK1, HO_0, HO_6, HO_7, BK203, HB⟩ := hrel
    cases gk with
    | zero => exact absurd HA.out (by simp [bazaarlaw12_GoodsOwn.l0])
    | succ k1 =>
      have H := HA.out
      clear HA
      simp only [bazaarlaw12_GoodsOwn.l0] at H
      by_cases c14 : x9_1 < (x7_1.length : Int)
      · rw [if_pos c14] at H
        have c14b0 : decide (x9_1 < (x7_1.length : Int)) = true := decide_eq_true c14
        clear c14
        by_cases c15 : 0 ≤ x9_1
        · rw [if_pos c15] at H
          have c15b0 : decide (0 ≤ x9_1) = true := decide_eq_true c15
          clear c15
          obtain ⟨y215, hy215⟩ : ∃ y_ : List (S42), y_ = (x7_1.set (x9_1 : Int).toNat (⟨(rd_T42 x7_1 x9_1).f0, (-1)⟩ : S42)) := ⟨_, rfl⟩
          replace H : (bazaarlaw12_GoodsOwn.l0 k1 t205 t204 t208 y215 (wrap64 (x9_1 + 1)) a1_0 x204001_1) = some r := by first | (rw [hy215]; with_reducible exact H) | (have H2_ := (Option.bind_some _ _).symm.trans H; rw [hy215]; with_reducible exact H2_) | (have H2_ := (Option.bind_some _ _).symm.trans H; with_reducible exact H2_) | with_reducible exact H | (rw [hy215]; exact H) | exact H
          have Ny215 := Aside0.mk hy215
          clear hy215
          have H' := Aside0.mk H
          clear H
          obtain ⟨Ao17, co17, eo17⟩ := Kd.R_slice HO_7.out
          subst eo17
          have p16 : 0 ≤ (x9_1 : Int) := of_decide_eq_true (by first | (with_reducible assumption) | assumption)
          have q16 : (x9_1 : Int) < ((x7_1.length : Int) : Int) := of_decide_eq_true (by first | (with_reducible assumption) | assumption)
          obtain ⟨go16, co16, eo16, gb16, gl16, cl16, HG16⟩ := Kd.R_form HO_7.out (by omega)
          (first | cases eo16 | (injection eo16 with ea_ en_ ec_; (first | subst ea_ | (injection ea_ with ea_; subst ea_)); subst ec_; clear en_))
          have GB16 := Aside0.mk gb16
          have GG16 := Aside0.mk HG16
          clear gb16 gl16 HG16
          obtain ⟨ce16, hcl16, hM16, hcc16, hfr16⟩ := Kd.R_elem HO_7.out z42 (x9_1 : Int) p16 q16
          obtain rfl := k42_openM hM16
          have hx16_0 : wr.cell? ⟨go16, (x9_1 : Int).toNat * 2, none⟩ = some (.int .u16 ((rd_T42 x7_1 x9_1).f0)) := hcc16 0 _ rfl
          have hx16_1 : wr.cell? ⟨go16, (x9_1 : Int).toNat * 2 + 1, none⟩ = some (.int .i64 ((rd_T42 x7_1 x9_1).f1)) := hcc16 1 _ rfl
          have hf16_0 : wr.frozen? ⟨go16, (x9_1 : Int).toNat * 2, none⟩ = false := hfr16 0
          have hf16_1 : wr.frozen? ⟨go16, (x9_1 : Int).toNat * 2 + 1, none⟩ = false := hfr16 1
          clear hcl16 hcc16 hfr16 hM16
          replace p16 := eq_true p16
          replace q16 := eq_true q16
          have HX18 := Aside0.mk (show Kd.R k42 42 wr w.heap.size (fun k_ => some k_ ≠ (.slice Ao10 t205.length co10 : Value).ownBlock ∧ some k_ ≠ (v209 : Value).ownBlock ∧ k_ ≠ gb203) (.slice (some ⟨go16, 0, none⟩) x7_1.length co17) x7_1 from (by (with_reducible repeat (first | apply Kd.R_alloc | apply Kd.R_drewN | apply Kd.R_drew)); exact HO_7.out))
          obtain ⟨ce18, hcl18, hM18, hcc18, hfr18⟩ := Kd.R_elem HX18.out z42 (x9_1 : Int) (of_decide_eq_true (by first | (with_reducible assumption) | assumption)) (by have h_ : (x9_1 : Int) < ((x7_1.length : Int) : Int) := of_decide_eq_true (by first | (with_reducible assumption) | assumption); first | exact h_ | (have e_ := (Kd.R_reads' HO_7.out).1; omega) | simpa using h_)
          obtain rfl := k42_openM hM18
          have HP18 := Kd.R_seg HX18.out (x9_1 : Int) (of_decide_eq_true (by first | (with_reducible assumption) | assumption)) (by have h_ : (x9_1 : Int) < ((x7_1.length : Int) : Int) := of_decide_eq_true (by first | (with_reducible assumption) | assumption); first | exact h_ | (have e_ := (Kd.R_reads' HO_7.out).1; omega) | simpa using h_) (seg := [.int .i64 (-1)]) (j := 1) hcl18 hcc18 (show 2 ≤ 2 from by decide) (x' := (⟨(rd_T42 x7_1 x9_1).f0, (-1)⟩ : S42)) (k42_mkM _ _ _ (⟨(rd_T42 x7_1 x9_1).f0, (-1)⟩ : S42) ) (fun _ hk => hk)
          have hx18_1 := hcc18 1 _ rfl
          (try simp only [show (k42).sz = 2 from rfl, Nat.mul_one, Nat.add_zero] at hx18_1)
          have hf18_1 := hfr18 1
          (try simp only [show (k42).sz = 2 from rfl, Nat.mul_one, Nat.add_zero] at hf18_1)
          clear hcl18 hcc18 hfr18 hM18
          go_wp2_with (first | ((with_reducible refine gate_store (t := 2) (p := 33) rfl ?_); refine store_event (t := 2) (p := 33) (v := ?vo_w19) (w1 := (wr.setCell ⟨go16, (x9_1 : Int).toNat * 2 + 1, none⟩ (.int .i64 (-1)))) ?hg ?ho ?hn ?hr ?_; (case ho => rfl); (case hg => rfl); (case hn => rfl); (case hr => first | (go_simp; done) | (go_simp; rfl)); intro w19 hw; have hg : wr.grownBy w19 (some go16) := (by rw [hw]; exact HP18.2); have hp_ : Kd.R k42 42 w19 w.heap.size (fun k_ => some k_ ≠ (.slice Ao10 t205.length co10 : Value).ownBlock ∧ some k_ ≠ (v209 : Value).ownBlock ∧ k_ ≠ gb203) (.slice (some ⟨go16, 0, none⟩) x7_1.length co17) y215 := (by rw [hw, Ny215.out]; exact HP18.1); clear HP18; have n0_ := Aside0.mk (Kd.R_after (v := (.slice (some ⟨go16, 0, none⟩) x7_1.length co17)) (v1 := (.slice (some ⟨go16, 0, none⟩) x7_1.length co17)) (ok := (fun k_ => some k_ ≠ (v209 : Value).ownBlock ∧ k_ ≠ gb203)) (by (with_reducible repeat (first | apply Kd.R_alloc | apply Kd.R_drewN | apply Kd.R_drew)); exact Kd.R_mono HO_0.out (fun _ hk => ⟨⟨hk.1, hk.2.2⟩, hk.2.1⟩)) hg (.inl rfl)); have n1_ := Aside0.mk (Kd.R_after (v := (.slice (some ⟨go16, 0, none⟩) x7_1.length co17)) (v1 := (.slice (some ⟨go16, 0, none⟩) x7_1.length co17)) (ok := (fun k_ => some k_ ≠ (.slice Ao10 t205.length co10 : Value).ownBlock ∧ k_ ≠ gb203)) (by (with_reducible repeat (first | apply Kd.R_alloc | apply Kd.R_drewN | apply Kd.R_drew)); exact Kd.R_mono HO_6.out (fun _ hk => ⟨⟨hk.1, hk.2.2⟩, hk.2.1⟩)) hg (.inl rfl)); have n2_ := Aside0.mk (hp_); have n3_ := Aside0.mk (blk_grown (g := gb203) (o := .cells #[.int .u16 a1_0, .int .i64 x204001_1] 42 (0, 0)) (by (with_reducible repeat (first | refine blk_drewN ?_ _ | refine blk_drew ?_ | refine blk_alloc ?_ _)); exact BK203.out) hg (Kd.R_away HO_7.out (fun _ hk => hk.2.2))); have n4_ := Aside0.mk ((by rw [hw]; exact below_set (HB.out) GB16.out : Below w.heap.size w w19)); clear HO_0; clear HO_6; clear HO_7; clear BK203; clear HB; have HO_0 := n0_; have HO_6 := n1_; have HO_7 := n2_; have BK203 := n3_; have HB := n4_; clear n0_ n1_ n2_ n3_ n4_; clear hg hw hp_))
          go_roundg k1
          case measure => have := HK1.out; omega
          case rel => exact ⟨(y215), (wrap64 (x9_1 + 1)), (x204001_1), (by first | rfl | (simp; done) | (simp [*]; done)), H', ⟨by have := HK1.out; omega⟩, ⟨by (with_reducible repeat (first | apply Kd.R_alloc | apply Kd.R_drewN | apply Kd.R_drew)); exact Kd.R_mono HO_0.out (fun _ hk => ⟨hk.1.1, ⟨hk.2, hk.1.2⟩⟩)⟩, ⟨by (with_reducible repeat (first | apply Kd.R_alloc | apply Kd.R_drewN | apply Kd.R_drew)); exact Kd.R_mono HO_6.out (fun _ hk => ⟨hk.1.1, ⟨hk.2, hk.1.2⟩⟩)⟩, ⟨by (with_reducible repeat (first | apply Kd.R_alloc | apply Kd.R_drewN | apply Kd.R_drew)); exact HO_7.out⟩, ⟨by (with_reducible repeat (first | refine blk_drewN ?_ _ | refine blk_drew ?_ | refine blk_alloc ?_ _)); exact BK203.out⟩, ⟨by repeat (first | (with_reducible first | exact HB.out | apply below_alloc | apply pw_below_drewN | apply below_drew1 | refine below_set ?_ GE203.out) | exact HB.out)⟩⟩
        · rw [if_neg c15] at H
          exact absurd H (by simp)
      · rw [if_neg c14] at H
        have c14b0 : decide (x9_1 < (x7_1.length : Int)) = false := decide_eq_false c14
        clear c14
        replace H := Option.bind_eq_some_iff.mp H
        obtain ⟨⟨t216, t219⟩, A200, H⟩ := H
        replace H : (bazaarlaw12_GoodsOwn.l1 k1 t205 t204 t208 t216 0) = some r := H
        have A20 := Aside0.mk A200
        clear A200
        have H' := Aside0.mk H
        clear H
        obtain ⟨Ao21, co21, eo21⟩ := Kd.R_slice HO_7.out
        subst eo21
        have hcz22_0 : wr.cell? ⟨gb203, 0, none⟩ = some (.int .u16 a1_0) := (blk_cell BK203.out 0).trans rfl
        have hcz22_1 : wr.cell? ⟨gb203, 1, none⟩ = some (.int .i64 x204001_1) := (blk_cell BK203.out 1).trans rfl
        have hfz22_0 := blk_frozen BK203.out 0
        have hfz22_1 := blk_frozen BK203.out 1
        go_wp2_with (first | ((with_reducible refine gate_callee (f := 36) rfl ?_); refine goesL_ (some 37) rfl rfl Tryd.func36 (by kernel_rfl) rfl #[.slice Ao10 t205.length co10, .agg #[.int .u16 a1_0, .int .i64 x204001_1]] rfl (by (try simp only [List.map_toArray, List.map_cons, List.map_nil]); first | done | rfl | (simp only [List.length_drop, List.length_take]; rfl)) ?_; (with_reducible refine (goods_Take.calls _ _ t205 a1_0 x204001_1 t216 t219 _ ?side1 ?side2 ?side3 A20.out).mono ?_); (case side1 => exact Laid_below HLD.out (by repeat (first | (with_reducible first | exact HB.out | apply below_alloc | apply pw_below_drewN | apply below_drew1 | refine below_set ?_ GE203.out) | exact HB.out))); (case side2 => repeat (first | exact (Kd.R_reads' HO_0.out).2.2 | (with_reducible refine Kd.C_alloc ?_ _) | (with_reducible refine Kd.C_drewN ?_ _) | (with_reducible refine Kd.C_drew ?_))); (case side3 => exact (Kd.R_reads' HO_0.out).2.1); rintro e w23 ⟨v217, rfl, ho0, hb⟩; refine ⟨_, rfl, ?_⟩; have n0_ := Aside0.mk (Kd.R_elder' (by (with_reducible repeat (first | apply Kd.R_alloc | apply Kd.R_drewN | apply Kd.R_drew)); exact HO_0.out) (Kd.R_base ho0) hb); have n1_ := Aside0.mk (Kd.R_elder' (by (with_reducible repeat (first | apply Kd.R_alloc | apply Kd.R_drewN | apply Kd.R_drew)); exact HO_6.out) (Kd.R_base ho0) hb); have n2_ := Aside0.mk (Kd.R_elder' (by (with_reducible repeat (first | apply Kd.R_alloc | apply Kd.R_drewN | apply Kd.R_drew)); exact HO_7.out) (Kd.R_base ho0) hb); have n3_ := Aside0.mk (Kd.R_lower (Kd.R_newB (Kd.R_new' (Kd.R_new' (Kd.R_new' ho0 (Kd.R_lt (by (with_reducible repeat (first | apply Kd.R_alloc | apply Kd.R_drewN | apply Kd.R_drew)); exact HO_0.out))) (Kd.R_lt (by (with_reducible repeat (first | apply Kd.R_alloc | apply Kd.R_drewN | apply Kd.R_drew)); exact HO_6.out))) (Kd.R_lt (by (with_reducible repeat (first | apply Kd.R_alloc | apply Kd.R_drewN | apply Kd.R_drew)); exact HO_7.out))) (g := gb203) (o := .cells #[.int .u16 a1_0, .int .i64 x204001_1] 42 (0, 0)) (by (with_reducible repeat (first | refine blk_drewN ?_ _ | refine blk_drew ?_ | refine blk_alloc ?_ _)); exact BK203.out)) (below_size (by repeat (first | (with_reducible first | exact HB.out | apply below_alloc | apply pw_below_drewN | apply below_drew1 | refine below_set ?_ GE203.out) | exact HB.out)))); have n4_ := Aside0.mk (blk_below (g := gb203) (o := .cells #[.int .u16 a1_0, .int .i64 x204001_1] 42 (0, 0)) (by (with_reducible repeat (first | refine blk_drewN ?_ _ | refine blk_drew ?_ | refine blk_alloc ?_ _)); exact BK203.out) hb); have n5_ := Aside0.mk (below_step (by repeat (first | (with_reducible first | exact HB.out | apply below_alloc | apply pw_below_drewN | apply below_drew1 | refine below_set ?_ GE203.out) | exact HB.out)) hb); clear HO_0; clear HO_6; clear HO_7; clear BK203; clear HB; have HO_0 := n0_; have HO_6 := n1_; have HO_7 := n2_; have HO218 := n3_; have BK203 := n4_; have HB := n5_; clear n0_ n1_ n2_ n3_ n4_ n5_; (try clear hb); (try clear hb2); (try clear hk); (try clear hi); (try clear ho0)))
        go_loopg [12] k1 (fun kq v12 w' => ∃ (x10_2 : List (S42)) (x12_2 : Int) (x204001_2 : Int), v12 = .int .i64 x12_2 ∧ Aside0 (bazaarlaw12_GoodsOwn.l1 kq t205 t204 t208 x10_2 x12_2 = some r) ∧ Aside0 (kq ≤ k1) ∧ Aside0 (Kd.R k42 42 w' w.heap.size (fun k_ => some k_ ≠ (v209 : Value).ownBlock ∧ some k_ ≠ (v217 : Value).ownBlock ∧ k_ ≠ gb203) (.slice Ao10 t205.length co10) t205) ∧ Aside0 (Kd.R k42 42 w' w.heap.size (fun k_ => some k_ ≠ ((.slice Ao10 t205.length co10) : Value).ownBlock ∧ some k_ ≠ (v217 : Value).ownBlock ∧ k_ ≠ gb203) v209 t208) ∧ Aside0 (Kd.R k42 42 w' w.heap.size (fun k_ => some k_ ≠ ((.slice Ao10 t205.length co10) : Value).ownBlock ∧ some k_ ≠ (v209 : Value).ownBlock ∧ k_ ≠ gb203) v217 x10_2) ∧ Aside0 (w'.heap[gb203]? = some (.cells #[.int .u16 a1_0, .int .i64 x204001_2] 42 (0, 0))) ∧ Aside0 (Below w.heap.size w w'))
        case atStart => exact ⟨(t216), (0), (x204001_1), (by first | rfl | (simp; done) | (simp [*]; done)), H', ⟨Nat.le_refl _⟩, ⟨by (with_reducible repeat (first | apply Kd.R_alloc | apply Kd.R_drewN | apply Kd.R_drew)); exact Kd.R_mono HO_0.out (fun _ hk => ⟨hk.1.1, ⟨hk.2, hk.1.2.2⟩⟩)⟩, ⟨by (with_reducible repeat (first | apply Kd.R_alloc | apply Kd.R_drewN | apply Kd.R_drew)); exact Kd.R_mono HO_6.out (fun _ hk => ⟨hk.1.1, ⟨hk.2, hk.1.2.2⟩⟩)⟩, ⟨by (with_reducible repeat (first | apply Kd.R_alloc | apply Kd.R_drewN | apply Kd.R_drew)); exact Kd.R_mono HO218.out (fun _ hk => ⟨hk.1.1.1.2, ⟨hk.1.1.2, hk.2⟩⟩)⟩, ⟨by (with_reducible repeat (first | refine blk_drewN ?_ _ | refine blk_drew ?_ | refine blk_alloc ?_ _)); exact BK203.out⟩, ⟨by repeat (first | (with_reducible first | exact HB.out | apply below_alloc | apply pw_below_drewN | apply below_drew1 | refine below_set ?_ GE203.out) | exact HB.out)⟩⟩
        case round =>
          clear H'
          try clear c1
          try clear p1
          try clear q1
          try clear hx1
          try clear p2
          try clear c3
          try clear p6
          try clear c10
          try clear c14
          try clear c14b0
          try clear c15
          try clear c15b0
          try clear c16
          try clear p16
          try clear q16
          try clear hx16
          try clear hf16
          try clear c18
          try clear hx18
          try clear hf18
          try clear hcz12_0
          try clear hcz12_1
          try clear hcz22_0
          try clear hcz22_1
          try clear hfz12_0
          try clear hfz12_1
          try clear hfz22_0
          try clear hfz22_1
          try clear hx16_0
          try clear hx16_1
          try clear hx18_1
          try clear p16
          try clear p2
          try clear q16
          obtain ⟨x10_2, x12_2, x204001_2, rfl, HA, HK2, HO_0, HO_6, HO_10, BK203, HB⟩ := hrel
          cases gk with
          | zero => exact absurd HA.out (by simp [bazaarlaw12_GoodsOwn.l1])
          | succ k2 =>
            have H := HA.out
            clear HA
            simp only [bazaarlaw12_GoodsOwn.l1] at H
            by_cases c24 : x12_2 < (x10_2.length : Int)
            · rw [if_pos c24] at H
              have c24b0 : decide (x12_2 < (x10_2.length : Int)) = true := decide_eq_true c24
              clear c24
              by_cases c25 : 0 ≤ x12_2
              · rw [if_pos c25] at H
                have c25b0 : decide (0 ≤ x12_2) = true := decide_eq_true c25
                clear c25
                obtain ⟨y220, hy220⟩ : ∃ y_ : List (S42), y_ = (x10_2.set (x12_2 : Int).toNat (⟨(rd_T42 x10_2 x12_2).f0, (-1)⟩ : S42)) := ⟨_, rfl⟩
                replace H : (bazaarlaw12_GoodsOwn.l1 k2 t205 t204 t208 y220 (wrap64 (x12_2 + 1))) = some r := by first | (rw [hy220]; with_reducible exact H) | (have H2_ := (Option.bind_some _ _).symm.trans H; rw [hy220]; with_reducible exact H2_) | (have H2_ := (Option.bind_some _ _).symm.trans H; with_reducible exact H2_) | with_reducible exact H | (rw [hy220]; exact H) | exact H
                have Ny220 := Aside0.mk hy220
                clear hy220
                have H' := Aside0.mk H
                clear H
                obtain ⟨Ao27, co27, eo27⟩ := Kd.R_slice HO_10.out
                subst eo27
                have p26 : 0 ≤ (x12_2 : Int) := of_decide_eq_true (by first | (with_reducible assumption) | assumption)
                have q26 : (x12_2 : Int) < ((x10_2.length : Int) : Int) := of_decide_eq_true (by first | (with_reducible assumption) | assumption)
                obtain ⟨go26, co26, eo26, gb26, gl26, cl26, HG26⟩ := Kd.R_form HO_10.out (by omega)
                (first | cases eo26 | (injection eo26 with ea_ en_ ec_; (first | subst ea_ | (injection ea_ with ea_; subst ea_)); subst ec_; clear en_))
                have GB26 := Aside0.mk gb26
                have GG26 := Aside0.mk HG26
                clear gb26 gl26 HG26
                obtain ⟨ce26, hcl26, hM26, hcc26, hfr26⟩ := Kd.R_elem HO_10.out z42 (x12_2 : Int) p26 q26
                obtain rfl := k42_openM hM26
                have hx26_0 : wr.cell? ⟨go26, (x12_2 : Int).toNat * 2, none⟩ = some (.int .u16 ((rd_T42 x10_2 x12_2).f0)) := hcc26 0 _ rfl
                have hx26_1 : wr.cell? ⟨go26, (x12_2 : Int).toNat * 2 + 1, none⟩ = some (.int .i64 ((rd_T42 x10_2 x12_2).f1)) := hcc26 1 _ rfl
                have hf26_0 : wr.frozen? ⟨go26, (x12_2 : Int).toNat * 2, none⟩ = false := hfr26 0
                have hf26_1 : wr.frozen? ⟨go26, (x12_2 : Int).toNat * 2 + 1, none⟩ = false := hfr26 1
                clear hcl26 hcc26 hfr26 hM26
                replace p26 := eq_true p26
                replace q26 := eq_true q26
                have HX28 := Aside0.mk (show Kd.R k42 42 wr w.heap.size (fun k_ => some k_ ≠ (.slice Ao10 t205.length co10 : Value).ownBlock ∧ some k_ ≠ (v209 : Value).ownBlock ∧ k_ ≠ gb203) (.slice (some ⟨go26, 0, none⟩) x10_2.length co27) x10_2 from (by (with_reducible repeat (first | apply Kd.R_alloc | apply Kd.R_drewN | apply Kd.R_drew)); exact HO_10.out))
                obtain ⟨ce28, hcl28, hM28, hcc28, hfr28⟩ := Kd.R_elem HX28.out z42 (x12_2 : Int) (of_decide_eq_true (by first | (with_reducible assumption) | assumption)) (by have h_ : (x12_2 : Int) < ((x10_2.length : Int) : Int) := of_decide_eq_true (by first | (with_reducible assumption) | assumption); first | exact h_ | (have e_ := (Kd.R_reads' HO_10.out).1; omega) | simpa using h_)
                obtain rfl := k42_openM hM28
                have HP28 := Kd.R_seg HX28.out (x12_2 : Int) (of_decide_eq_true (by first | (with_reducible assumption) | assumption)) (by have h_ : (x12_2 : Int) < ((x10_2.length : Int) : Int) := of_decide_eq_true (by first | (with_reducible assumption) | assumption); first | exact h_ | (have e_ := (Kd.R_reads' HO_10.out).1; omega) | simpa using h_) (seg := [.int .i64 (-1)]) (j := 1) hcl28 hcc28 (show 2 ≤ 2 from by decide) (x' := (⟨(rd_T42 x10_2 x12_2).f0, (-1)⟩ : S42)) (k42_mkM _ _ _ (⟨(rd_T42 x10_2 x12_2).f0, (-1)⟩ : S42) ) (fun _ hk => hk)
                have hx28_1 := hcc28 1 _ rfl
                (try simp only [show (k42).sz = 2 from rfl, Nat.mul_one, Nat.add_zero] at hx28_1)
                have hf28_1 := hfr28 1
                (try simp only [show (k42).sz = 2 from rfl, Nat.mul_one, Nat.add_zero] at hf28_1)
                clear hcl28 hcc28 hfr28 hM28
                go_wp2_with (first | ((with_reducible refine gate_store (t := 2) (p := 49) rfl ?_); refine store_event (t := 2) (p := 49) (v := ?vo_w29) (w1 := (wr.setCell ⟨go26, (x12_2 : Int).toNat * 2 + 1, none⟩ (.int .i64 (-1)))) ?hg ?ho ?hn ?hr ?_; (case ho => rfl); (case hg => rfl); (case hn => rfl); (case hr => first | (go_simp; done) | (go_simp; rfl)); intro w29 hw; have hg : wr.grownBy w29 (some go26) := (by rw [hw]; exact HP28.2); have hp_ : Kd.R k42 42 w29 w.heap.size (fun k_ => some k_ ≠ (.slice Ao10 t205.length co10 : Value).ownBlock ∧ some k_ ≠ (v209 : Value).ownBlock ∧ k_ ≠ gb203) (.slice (some ⟨go26, 0, none⟩) x10_2.length co27) y220 := (by rw [hw, Ny220.out]; exact HP28.1); clear HP28; have n0_ := Aside0.mk (Kd.R_after (v := (.slice (some ⟨go26, 0, none⟩) x10_2.length co27)) (v1 := (.slice (some ⟨go26, 0, none⟩) x10_2.length co27)) (ok := (fun k_ => some k_ ≠ (v209 : Value).ownBlock ∧ k_ ≠ gb203)) (by (with_reducible repeat (first | apply Kd.R_alloc | apply Kd.R_drewN | apply Kd.R_drew)); exact Kd.R_mono HO_0.out (fun _ hk => ⟨⟨hk.1, hk.2.2⟩, hk.2.1⟩)) hg (.inl rfl)); have n1_ := Aside0.mk (Kd.R_after (v := (.slice (some ⟨go26, 0, none⟩) x10_2.length co27)) (v1 := (.slice (some ⟨go26, 0, none⟩) x10_2.length co27)) (ok := (fun k_ => some k_ ≠ (.slice Ao10 t205.length co10 : Value).ownBlock ∧ k_ ≠ gb203)) (by (with_reducible repeat (first | apply Kd.R_alloc | apply Kd.R_drewN | apply Kd.R_drew)); exact Kd.R_mono HO_6.out (fun _ hk => ⟨⟨hk.1, hk.2.2⟩, hk.2.1⟩)) hg (.inl rfl)); have n2_ := Aside0.mk (hp_); have n3_ := Aside0.mk (blk_grown (g := gb203) (o := .cells #[.int .u16 a1_0, .int .i64 x204001_2] 42 (0, 0)) (by (with_reducible repeat (first | refine blk_drewN ?_ _ | refine blk_drew ?_ | refine blk_alloc ?_ _)); exact BK203.out) hg (Kd.R_away HO_10.out (fun _ hk => hk.2.2))); have n4_ := Aside0.mk ((by rw [hw]; exact below_set (HB.out) GB26.out : Below w.heap.size w w29)); clear HO_0; clear HO_6; clear HO_10; clear BK203; clear HB; have HO_0 := n0_; have HO_6 := n1_; have HO_10 := n2_; have BK203 := n3_; have HB := n4_; clear n0_ n1_ n2_ n3_ n4_; clear hg hw hp_))
                go_roundg k2
                case measure => have := HK1.out; have := HK2.out; omega
                case rel => exact ⟨(y220), (wrap64 (x12_2 + 1)), (x204001_2), (by first | rfl | (simp; done) | (simp [*]; done)), H', ⟨by have := HK1.out; have := HK2.out; omega⟩, ⟨by (with_reducible repeat (first | apply Kd.R_alloc | apply Kd.R_drewN | apply Kd.R_drew)); exact Kd.R_mono HO_0.out (fun _ hk => ⟨hk.1.1, ⟨hk.2, hk.1.2⟩⟩)⟩, ⟨by (with_reducible repeat (first | apply Kd.R_alloc | apply Kd.R_drewN | apply Kd.R_drew)); exact Kd.R_mono HO_6.out (fun _ hk => ⟨hk.1.1, ⟨hk.2, hk.1.2⟩⟩)⟩, ⟨by (with_reducible repeat (first | apply Kd.R_alloc | apply Kd.R_drewN | apply Kd.R_drew)); exact HO_10.out⟩, ⟨by (with_reducible repeat (first | refine blk_drewN ?_ _ | refine blk_drew ?_ | refine blk_alloc ?_ _)); exact BK203.out⟩, ⟨by repeat (first | (with_reducible first | exact HB.out | apply below_alloc | apply pw_below_drewN | apply below_drew1 | refine below_set ?_ GE203.out) | exact HB.out)⟩⟩
              · rw [if_neg c25] at H
                exact absurd H (by simp)
            · rw [if_neg c24] at H
              have c24b0 : decide (x12_2 < (x10_2.length : Int)) = false := decide_eq_false c24
              clear c24
              by_cases c30 : t204 = true
              · subst c30
                have H1 : ((bazaarref12_Same.f k2 t205 t208).bind fun t221 => (some t221)) = some r := by rw [if_pos rfl] at H; exact H
                clear H
                have H := H1
                clear H1
                replace H := Option.bind_eq_some_iff.mp H
                obtain ⟨t221, A310, H⟩ := H
                replace H : (some t221) = some r := H
                have A31 := Aside0.mk A310
                clear A310
                obtain rfl := Option.some.inj H
                obtain ⟨Ao32, co32, eo32⟩ := Kd.R_slice HO_10.out
                subst eo32
                obtain ⟨Ao33, co33, eo33⟩ := Kd.R_slice HO_6.out
                subst eo33
                go_wp2_with (first | (go_at_call 37; (with_reducible refine (bazaarref12_Same.calls k2 _ _ t205 _ _ t208 t221 _ ?side1 ?side2 ?side3 ?side4 ?side5 A31.out).mono ?_); (case side1 => exact Laid_below HLD.out (by repeat (first | (with_reducible first | exact HB.out | apply below_alloc | apply pw_below_drewN | apply below_drew1 | refine below_set ?_ GE203.out) | exact HB.out))); (case side2 => repeat (first | exact (Kd.R_reads' HO_0.out).2.2 | (with_reducible refine Kd.C_alloc ?_ _) | (with_reducible refine Kd.C_drewN ?_ _) | (with_reducible refine Kd.C_drew ?_))); (case side3 => exact (Kd.R_reads' HO_0.out).2.1); (case side4 => repeat (first | exact (Kd.R_reads' HO_6.out).2.2 | (with_reducible refine Kd.C_alloc ?_ _) | (with_reducible refine Kd.C_drewN ?_ _) | (with_reducible refine Kd.C_drew ?_))); (case side5 => exact (Kd.R_reads' HO_6.out).2.1); rintro e w34 ⟨rfl, hb⟩; have n0_ := Aside0.mk (Kd.R_below (by (with_reducible repeat (first | apply Kd.R_alloc | apply Kd.R_drewN | apply Kd.R_drew)); exact HO_0.out) hb); have n1_ := Aside0.mk (Kd.R_below (by (with_reducible repeat (first | apply Kd.R_alloc | apply Kd.R_drewN | apply Kd.R_drew)); exact HO_6.out) hb); have n2_ := Aside0.mk (Kd.R_below (by (with_reducible repeat (first | apply Kd.R_alloc | apply Kd.R_drewN | apply Kd.R_drew)); exact HO_10.out) hb); have n3_ := Aside0.mk (blk_below (g := gb203) (o := .cells #[.int .u16 a1_0, .int .i64 x204001_2] 42 (0, 0)) (by (with_reducible repeat (first | refine blk_drewN ?_ _ | refine blk_drew ?_ | refine blk_alloc ?_ _)); exact BK203.out) hb); have n4_ := Aside0.mk (below_step (by repeat (first | (with_reducible first | exact HB.out | apply below_alloc | apply pw_below_drewN | apply below_drew1 | refine below_set ?_ GE203.out) | exact HB.out)) hb); clear HO_0; clear HO_6; clear HO_10; clear BK203; clear HB; have HO_0 := n0_; have HO_6 := n1_; have HO_10 := n2_; have BK203 := n3_; have HB := n4_; clear n0_ n1_ n2_ n3_ n4_; (try clear hb); (try clear hb2); (try clear hk); (try clear hi)))
                go_ret
                exact ⟨by first | rfl | (simp [errW_none, errW_some] <;> rfl) | (simp [*, errW_none, errW_some] <;> rfl), by repeat (first | (with_reducible first | exact HB.out | apply below_alloc | apply pw_below_drewN | apply below_drew1 | refine below_set ?_ GE203.out) | exact HB.out)⟩
              · replace c30 := Bool.eq_false_iff.mpr c30
                subst c30
                have H1 : (some false) = some r := by rw [if_neg (show ¬ (false = true) by decide)] at H; exact H
                clear H
                have H := H1
                clear H1
                obtain rfl := Option.some.inj H
                obtain ⟨Ao35, co35, eo35⟩ := Kd.R_slice HO_10.out
                subst eo35
                go_wp2
                go_ret
                exact ⟨by first | rfl | (simp [errW_none, errW_some] <;> rfl) | (simp [*, errW_none, errW_some] <;> rfl), by repeat (first | (with_reducible first | exact HB.out | apply below_alloc | apply pw_below_drewN | apply below_drew1 | refine below_set ?_ GE203.out) | exact HB.out)⟩

end Go.Proofs.YtgnjodocggihoaaDoor.G
