-- Printed by a program of this session (a turned copy of the print); what it takes as given stands in the seat's own texts.
import Derived.Test.YtoclldkgkmhgaaaDoorKx0
import Derived.Test.YtoclldkgkmhgaaaDoorKx17
import Derived.Test.YtoclldkgkmhgaaaDoorKx55
import Derived.Test.YtoclldkgkmhgaaaDoorGiven15
namespace Go.Proofs.YtoclldkgkmhgaaaDoor.K
open Go.RowKit Go.Proofs.YtoclldkgkmhgaaaDoorW.PrintWords Go.Proofs.YtoclldkgkmhgaaaDoorW.PrintLast Go.Proofs.YtoclldkgkmhgaaaDoorW.PrintMore
attribute [local go_sem] max2_int min2_int max_two min_two max_three min_three max_four min_four   -- for this text's walks alone
set_option linter.unusedVariables false
set_option linter.unusedSimpArgs false

/-! ### bazaarlaw15_ShopOwn: function 11 -/
mutual
def bazaarlaw15_ShopOwn.l0 : Nat → List (S25) → Bool → List (S25) → List (S25) → Int → Int → Int → Int → Int → Option (Bool)
  | 0, _, _, _, _, _, _, _, _, _ => none
  | k + 1, x0, x5, x6, x7, x9, x556000, x556001, x556002, x556003 => if x9 < (x7.length : Int) then (if 0 ≤ x9 then (bazaarlaw15_ShopOwn.l0 k x0 x5 x6 (x7.set (x9 : Int).toNat (⟨(rd_T25 x7 x9).f0, (-1)⟩ : S25)) (wrap64 (x9 + 1)) x556000 x556001 x556002 x556003) else (none)) else ((shop_Cancel.f x0 x556000 x556001 x556002 x556003).bind fun bt568 => (bazaarlaw15_ShopOwn.l1 k x0 x5 x6 bt568.1 0))
def bazaarlaw15_ShopOwn.l1 : Nat → List (S25) → Bool → List (S25) → List (S25) → Int → Option (Bool)
  | 0, _, _, _, _, _ => none
  | k + 1, x0, x5, x6, x10, x12 => if x12 < (x10.length : Int) then (if 0 ≤ x12 then (bazaarlaw15_ShopOwn.l1 k x0 x5 x6 (x10.set (x12 : Int).toNat (⟨(rd_T25 x10 x12).f0, (-1)⟩ : S25)) (wrap64 (x12 + 1))) else (none)) else (if x5 = true then ((bazaarref12_Same.f k x0 x6).bind fun t573 => (some t573)) else (some false))
end
def bazaarlaw15_ShopOwn.f (k : Nat) (l0 : List (S25)) (a1_0 : Int) (a1_1 : Int) (a1_2 : Int) (a1_3 : Int) : Option (Bool) := (bazaarlaw15_shown.f k).bind fun t556 => ((bazaarlaw15_cut.f l0).bind fun t557 => ((bazaarlaw15_cut.f t557).bind fun t560 => ((shop_List.f t557 a1_0 a1_1 a1_2 a1_3).bind fun bt563 => (bazaarlaw15_ShopOwn.l0 k t557 t556 t560 bt563.1 0 a1_0 a1_1 a1_2 a1_3))))
theorem bazaarlaw15_ShopOwn.mono_l : ∀ k, (∀ y0 y1 y2 y3 y4 y5 y6 y7 y8, LeO (bazaarlaw15_ShopOwn.l0 k y0 y1 y2 y3 y4 y5 y6 y7 y8) (bazaarlaw15_ShopOwn.l0 (k + 1) y0 y1 y2 y3 y4 y5 y6 y7 y8)) ∧ (∀ y0 y1 y2 y3 y4, LeO (bazaarlaw15_ShopOwn.l1 k y0 y1 y2 y3 y4) (bazaarlaw15_ShopOwn.l1 (k + 1) y0 y1 y2 y3 y4))
  | 0 => ⟨fun _ _ _ _ _ _ _ _ _ r h => by simp [bazaarlaw15_ShopOwn.l0] at h, fun _ _ _ _ _ r h => by simp [bazaarlaw15_ShopOwn.l1] at h⟩
  | k + 1 => by
    obtain ⟨ih0, ih1⟩ := bazaarlaw15_ShopOwn.mono_l k
    refine ⟨?_, ?_⟩
    · intro y0 y1 y2 y3 y4 y5 y6 y7 y8
      unfold bazaarlaw15_ShopOwn.l0
      repeat' first
      | (with_reducible exact ih0 _ _ _ _ _ _ _ _ _)
      | (with_reducible exact ih1 _ _ _ _ _)
      | (with_reducible exact bazaarlaw15_shown.mono _)
      | (with_reducible exact bazaarref12_Same.mono _ _ _)
      | (with_reducible exact LeO.refl _)
      | (with_reducible exact LeO.none _)
      | (with_reducible refine LeO.ite ?_ ?_)
      | (with_reducible refine LeO.bind ?_ (fun _ => ?_))
      | exact ih0 _ _ _ _ _ _ _ _ _
      | exact ih1 _ _ _ _ _
      | exact bazaarlaw15_shown.mono _
      | exact bazaarref12_Same.mono _ _ _
      | exact LeO.none _
      | refine LeO.ite ?_ ?_
      | refine LeO.bind ?_ (fun _ => ?_)
    · intro y0 y1 y2 y3 y4
      unfold bazaarlaw15_ShopOwn.l1
      repeat' first
      | (with_reducible exact ih0 _ _ _ _ _ _ _ _ _)
      | (with_reducible exact ih1 _ _ _ _ _)
      | (with_reducible exact bazaarlaw15_shown.mono _)
      | (with_reducible exact bazaarref12_Same.mono _ _ _)
      | (with_reducible exact LeO.refl _)
      | (with_reducible exact LeO.none _)
      | (with_reducible refine LeO.ite ?_ ?_)
      | (with_reducible refine LeO.bind ?_ (fun _ => ?_))
      | exact ih0 _ _ _ _ _ _ _ _ _
      | exact ih1 _ _ _ _ _
      | exact bazaarlaw15_shown.mono _
      | exact bazaarref12_Same.mono _ _ _
      | exact LeO.none _
      | refine LeO.ite ?_ ?_
      | refine LeO.bind ?_ (fun _ => ?_)
theorem bazaarlaw15_ShopOwn.mono : ∀ a0 a1 a2 a3 a4 k, LeO (bazaarlaw15_ShopOwn.f k a0 a1 a2 a3 a4) (bazaarlaw15_ShopOwn.f (k + 1) a0 a1 a2 a3 a4) := by
  intro a0 a1 a2 a3 a4 k
  obtain ⟨ih0, ih1⟩ := bazaarlaw15_ShopOwn.mono_l k
  unfold bazaarlaw15_ShopOwn.f
  repeat' first
      | (with_reducible exact ih0 _ _ _ _ _ _ _ _ _)
      | (with_reducible exact ih1 _ _ _ _ _)
      | (with_reducible exact bazaarlaw15_shown.mono _)
      | (with_reducible exact bazaarref12_Same.mono _ _ _)
      | (with_reducible exact LeO.refl _)
      | (with_reducible exact LeO.none _)
      | (with_reducible refine LeO.ite ?_ ?_)
      | (with_reducible refine LeO.bind ?_ (fun _ => ?_))
      | exact ih0 _ _ _ _ _ _ _ _ _
      | exact ih1 _ _ _ _ _
      | exact bazaarlaw15_shown.mono _
      | exact bazaarref12_Same.mono _ _ _
      | exact LeO.none _
      | refine LeO.ite ?_ ?_
      | refine LeO.bind ?_ (fun _ => ?_)
set_option maxHeartbeats 8000000 in
set_option maxRecDepth 100000 in
theorem bazaarlaw15_ShopOwn.calls (k : Nat) (A0 : Option Addr) (c0 : Nat) (l0 : List (S25)) (a1_0 : Int) (a1_1 : Int) (a1_2 : Int) (a1_3 : Int) (r : Bool) (w : World) (hL : Laid w) (hr0 : Kd.C k25 w A0 l0.length l0) (hc0 : l0.length ≤ c0) (h : bazaarlaw15_ShopOwn.f k l0 a1_0 a1_1 a1_2 a1_3 = some r) :
    Calls Tryd.prog 11 #[.slice A0 l0.length c0, .agg #[.int .u32 a1_0, .int .u16 a1_1, .int .i64 a1_2, .int .i64 a1_3]] w fun e w' => e = .returned (.bool r) ∧ Below w.heap.size w w' := by
  have hu49 := Tryd.underlying49
  have HLD := Aside0.mk hL
  clear hL
  have HR0 := Aside0.mk hr0
  have HC0 := Aside0.mk hc0
  clear hr0 hc0
  have HB := Aside0.mk (Below.refl w.heap.size w)
  have H : ((bazaarlaw15_shown.f k).bind fun t556 => ((bazaarlaw15_cut.f l0).bind fun t557 => ((bazaarlaw15_cut.f t557).bind fun t560 => ((shop_List.f t557 a1_0 a1_1 a1_2 a1_3).bind fun bt563 => (bazaarlaw15_ShopOwn.l0 k t557 t556 t560 bt563.1 0 a1_0 a1_1 a1_2 a1_3))))) = some r := h
  clear h
  replace H := Option.bind_eq_some_iff.mp H
  obtain ⟨t556, A30, H⟩ := H
  replace H : ((bazaarlaw15_cut.f l0).bind fun t557 => ((bazaarlaw15_cut.f t557).bind fun t560 => ((shop_List.f t557 a1_0 a1_1 a1_2 a1_3).bind fun bt563 => (bazaarlaw15_ShopOwn.l0 k t557 t556 t560 bt563.1 0 a1_0 a1_1 a1_2 a1_3)))) = some r := H
  have A3 := Aside0.mk A30
  clear A30
  replace H := Option.bind_eq_some_iff.mp H
  obtain ⟨t557, A40, H⟩ := H
  replace H : ((bazaarlaw15_cut.f t557).bind fun t560 => ((shop_List.f t557 a1_0 a1_1 a1_2 a1_3).bind fun bt563 => (bazaarlaw15_ShopOwn.l0 k t557 t556 t560 bt563.1 0 a1_0 a1_1 a1_2 a1_3))) = some r := H
  have A4 := Aside0.mk A40
  clear A40
  replace H := Option.bind_eq_some_iff.mp H
  obtain ⟨t560, A50, H⟩ := H
  replace H : ((shop_List.f t557 a1_0 a1_1 a1_2 a1_3).bind fun bt563 => (bazaarlaw15_ShopOwn.l0 k t557 t556 t560 bt563.1 0 a1_0 a1_1 a1_2 a1_3)) = some r := H
  have A5 := Aside0.mk A50
  clear A50
  replace H := Option.bind_eq_some_iff.mp H
  obtain ⟨⟨t563, t566⟩, A60, H⟩ := H
  replace H : (bazaarlaw15_ShopOwn.l0 k t557 t556 t560 t563 0 a1_0 a1_1 a1_2 a1_3) = some r := H
  have A6 := Aside0.mk A60
  clear A60
  have H' := Aside0.mk H
  clear H
  go_enter Tryd.func11, Tryd.ntmps11
  go_wp2_with (first | ((with_reducible refine gate_dst (N := 3) rfl ?_); refine box_event ?hg (N := 3) ?hd (cs := #[.int .u32 a1_0, .int .u16 a1_1, .int .i64 a1_2, .int .i64 a1_3]) (t := 49) ?hr ?_; (case hd => rfl); (case hg => rfl); (case hr => first | (go_simp; done) | (go_simp; rfl)); intro gb555 hg w7 hbox hb; have n0_ := Aside0.mk (below_step (by repeat (first | (with_reducible first | exact HB.out | apply below_alloc | apply pw_below_drewN | apply below_drew1) | exact HB.out)) hb); have n1_ := Aside0.mk (hbox); have n2_ := Aside0.mk ((by rw [hg]; exact (below_size (by repeat (first | (with_reducible first | exact HB.out | apply below_alloc | apply pw_below_drewN | apply below_drew1) | exact HB.out))) : w.heap.size ≤ gb555)); have n3_ := Aside0.mk ((by rw [hg]; exact (below_size (by repeat (first | (with_reducible first | exact HB.out | apply below_alloc | apply pw_below_drewN | apply below_drew1) | exact HB.out))) : w.heap.size ≤ gb555)); clear HB; have HB := n0_; have BK555 := n1_; have GW555 := n2_; have GE555 := n3_; clear n0_ n1_ n2_ n3_; clear hb hbox hg) | ((with_reducible refine gate_callee (f := 29) rfl ?_); refine goesL_ (some 13) rfl rfl Tryd.func29 (by kernel_rfl) rfl #[] rfl (by (try simp only [List.map_toArray, List.map_cons, List.map_nil]); first | done | rfl | (simp only [List.length_drop, List.length_take]; rfl)) ?_; (with_reducible refine (bazaarlaw15_shown.calls k  t556 _ ?side1 A3.out).mono ?_); (case side1 => exact Laid_below HLD.out (by repeat (first | (with_reducible first | exact HB.out | apply below_alloc | apply pw_below_drewN | apply below_drew1 | refine below_set ?_ GE555.out) | exact HB.out))); rintro e w8 ⟨rfl, hb⟩; refine ⟨_, rfl, ?_⟩; have n0_ := Aside0.mk (blk_below (g := gb555) (o := .cells #[.int .u32 a1_0, .int .u16 a1_1, .int .i64 a1_2, .int .i64 a1_3] 49 (0, 0)) (by (with_reducible repeat (first | refine blk_drewN ?_ _ | refine blk_drew ?_ | refine blk_alloc ?_ _)); exact BK555.out) hb); have n1_ := Aside0.mk (below_step (by repeat (first | (with_reducible first | exact HB.out | apply below_alloc | apply pw_below_drewN | apply below_drew1 | refine below_set ?_ GE555.out) | exact HB.out)) hb); clear BK555; clear HB; have BK555 := n0_; have HB := n1_; clear n0_ n1_; (try clear hb); (try clear hb2); (try clear hk); (try clear hi)) | ((with_reducible refine gate_callee (f := 30) rfl ?_); refine goesL_ (some 15) rfl rfl Tryd.func30 (by kernel_rfl) rfl #[.slice A0 l0.length c0] rfl (by (try simp only [List.map_toArray, List.map_cons, List.map_nil]); first | done | rfl | (simp only [List.length_drop, List.length_take]; rfl)) ?_; (with_reducible refine (bazaarlaw15_cut.calls _ _ l0 t557 _ ?side1 ?side2 ?side3 A4.out).mono ?_); (case side1 => exact Laid_below HLD.out (by repeat (first | (with_reducible first | exact HB.out | apply below_alloc | apply pw_below_drewN | apply below_drew1 | refine below_set ?_ GE555.out) | exact HB.out))); (case side2 => repeat (first | exact (Kd.C_below HR0.out HB.out) | (with_reducible refine Kd.C_alloc ?_ _) | (with_reducible refine Kd.C_drewN ?_ _) | (with_reducible refine Kd.C_drew ?_))); (case side3 => exact HC0.out); rintro e w9 ⟨v558, rfl, ho0, hb⟩; refine ⟨_, rfl, ?_⟩; have n0_ := Aside0.mk (Kd.R_lower ho0 (below_size (by repeat (first | (with_reducible first | exact HB.out | apply below_alloc | apply pw_below_drewN | apply below_drew1 | refine below_set ?_ GE555.out) | exact HB.out)))); have n1_ := Aside0.mk (blk_below (g := gb555) (o := .cells #[.int .u32 a1_0, .int .u16 a1_1, .int .i64 a1_2, .int .i64 a1_3] 49 (0, 0)) (by (with_reducible repeat (first | refine blk_drewN ?_ _ | refine blk_drew ?_ | refine blk_alloc ?_ _)); exact BK555.out) hb); have n2_ := Aside0.mk (below_step (by repeat (first | (with_reducible first | exact HB.out | apply below_alloc | apply pw_below_drewN | apply below_drew1 | refine below_set ?_ GE555.out) | exact HB.out)) hb); clear BK555; clear HB; have HO559 := n0_; have BK555 := n1_; have HB := n2_; clear n0_ n1_ n2_; (try clear hb); (try clear hb2); (try clear hk); (try clear hi); (try clear ho0); obtain ⟨Ao10, co10, eo10⟩ := Kd.R_slice HO559.out; subst eo10) | ((with_reducible refine gate_callee (f := 30) rfl ?_); refine goesL_ (some 17) rfl rfl Tryd.func30 (by kernel_rfl) rfl #[.slice Ao10 t557.length co10] rfl (by (try simp only [List.map_toArray, List.map_cons, List.map_nil]); first | done | rfl | (simp only [List.length_drop, List.length_take]; rfl)) ?_; (with_reducible refine (bazaarlaw15_cut.calls _ _ t557 t560 _ ?side1 ?side2 ?side3 A5.out).mono ?_); (case side1 => exact Laid_below HLD.out (by repeat (first | (with_reducible first | exact HB.out | apply below_alloc | apply pw_below_drewN | apply below_drew1 | refine below_set ?_ GE555.out) | exact HB.out))); (case side2 => repeat (first | exact (Kd.R_reads' HO559.out).2.2 | (with_reducible refine Kd.C_alloc ?_ _) | (with_reducible refine Kd.C_drewN ?_ _) | (with_reducible refine Kd.C_drew ?_))); (case side3 => exact (Kd.R_reads' HO559.out).2.1); rintro e w11 ⟨v561, rfl, ho0, hb⟩; refine ⟨_, rfl, ?_⟩; have n0_ := Aside0.mk (Kd.R_elder' (by (with_reducible repeat (first | apply Kd.R_alloc | apply Kd.R_drewN | apply Kd.R_drew)); exact HO559.out) (Kd.R_base ho0) hb); have n1_ := Aside0.mk (Kd.R_lower (Kd.R_new' ho0 (Kd.R_lt (by (with_reducible repeat (first | apply Kd.R_alloc | apply Kd.R_drewN | apply Kd.R_drew)); exact HO559.out))) (below_size (by repeat (first | (with_reducible first | exact HB.out | apply below_alloc | apply pw_below_drewN | apply below_drew1 | refine below_set ?_ GE555.out) | exact HB.out)))); have n2_ := Aside0.mk (blk_below (g := gb555) (o := .cells #[.int .u32 a1_0, .int .u16 a1_1, .int .i64 a1_2, .int .i64 a1_3] 49 (0, 0)) (by (with_reducible repeat (first | refine blk_drewN ?_ _ | refine blk_drew ?_ | refine blk_alloc ?_ _)); exact BK555.out) hb); have n3_ := Aside0.mk (below_step (by repeat (first | (with_reducible first | exact HB.out | apply below_alloc | apply pw_below_drewN | apply below_drew1 | refine below_set ?_ GE555.out) | exact HB.out)) hb); clear HO559; clear BK555; clear HB; have HO559 := n0_; have HO562 := n1_; have BK555 := n2_; have HB := n3_; clear n0_ n1_ n2_ n3_; (try clear hb); (try clear hb2); (try clear hk); (try clear hi); (try clear ho0); have hcz12_0 : w11.cell? ⟨gb555, 0, none⟩ = some (.int .u32 a1_0) := (blk_cell BK555.out 0).trans rfl; have hcz12_1 : w11.cell? ⟨gb555, 1, none⟩ = some (.int .u16 a1_1) := (blk_cell BK555.out 1).trans rfl; have hcz12_2 : w11.cell? ⟨gb555, 2, none⟩ = some (.int .i64 a1_2) := (blk_cell BK555.out 2).trans rfl; have hcz12_3 : w11.cell? ⟨gb555, 3, none⟩ = some (.int .i64 a1_3) := (blk_cell BK555.out 3).trans rfl; have hfz12_0 := blk_frozen BK555.out 0; have hfz12_1 := blk_frozen BK555.out 1; have hfz12_2 := blk_frozen BK555.out 2; have hfz12_3 := blk_frozen BK555.out 3) | ((with_reducible refine gate_callee (f := 32) rfl ?_); refine goesL_ (some 21) rfl rfl Tryd.func32 (by kernel_rfl) rfl #[.slice Ao10 t557.length co10, .agg #[.int .u32 a1_0, .int .u16 a1_1, .int .i64 a1_2, .int .i64 a1_3]] rfl (by (try simp only [List.map_toArray, List.map_cons, List.map_nil]); first | done | rfl | (simp only [List.length_drop, List.length_take]; rfl)) ?_; (with_reducible refine (shop_List.calls _ _ t557 a1_0 a1_1 a1_2 a1_3 t563 t566 _ ?side1 ?side2 ?side3 A6.out).mono ?_); (case side1 => exact Laid_below HLD.out (by repeat (first | (with_reducible first | exact HB.out | apply below_alloc | apply pw_below_drewN | apply below_drew1 | refine below_set ?_ GE555.out) | exact HB.out))); (case side2 => repeat (first | exact (Kd.R_reads' HO559.out).2.2 | (with_reducible refine Kd.C_alloc ?_ _) | (with_reducible refine Kd.C_drewN ?_ _) | (with_reducible refine Kd.C_drew ?_))); (case side3 => exact (Kd.R_reads' HO559.out).2.1); rintro e w13 ⟨v564, rfl, ho0, hb⟩; refine ⟨_, rfl, ?_⟩; have n0_ := Aside0.mk (Kd.R_elder' (by (with_reducible repeat (first | apply Kd.R_alloc | apply Kd.R_drewN | apply Kd.R_drew)); exact HO559.out) (Kd.R_base ho0) hb); have n1_ := Aside0.mk (Kd.R_elder' (by (with_reducible repeat (first | apply Kd.R_alloc | apply Kd.R_drewN | apply Kd.R_drew)); exact HO562.out) (Kd.R_base ho0) hb); have n2_ := Aside0.mk (Kd.R_lower (Kd.R_new' (Kd.R_new' ho0 (Kd.R_lt (by (with_reducible repeat (first | apply Kd.R_alloc | apply Kd.R_drewN | apply Kd.R_drew)); exact HO559.out))) (Kd.R_lt (by (with_reducible repeat (first | apply Kd.R_alloc | apply Kd.R_drewN | apply Kd.R_drew)); exact HO562.out))) (below_size (by repeat (first | (with_reducible first | exact HB.out | apply below_alloc | apply pw_below_drewN | apply below_drew1 | refine below_set ?_ GE555.out) | exact HB.out)))); have n3_ := Aside0.mk (blk_below (g := gb555) (o := .cells #[.int .u32 a1_0, .int .u16 a1_1, .int .i64 a1_2, .int .i64 a1_3] 49 (0, 0)) (by (with_reducible repeat (first | refine blk_drewN ?_ _ | refine blk_drew ?_ | refine blk_alloc ?_ _)); exact BK555.out) hb); have n4_ := Aside0.mk (below_step (by repeat (first | (with_reducible first | exact HB.out | apply below_alloc | apply pw_below_drewN | apply below_drew1 | refine below_set ?_ GE555.out) | exact HB.out)) hb); clear HO559; clear HO562; clear BK555; clear HB; have HO559 := n0_; have HO562 := n1_; have HO565 := n2_; have BK555 := n3_; have HB := n4_; clear n0_ n1_ n2_ n3_ n4_; (try clear hb); (try clear hb2); (try clear hk); (try clear hi); (try clear ho0)))
  go_loopg [9] k (fun kq v9 w' => ∃ (x7_1 : List (S25)) (x9_1 : Int), v9 = .int .i64 x9_1 ∧ Aside0 (bazaarlaw15_ShopOwn.l0 kq t557 t556 t560 x7_1 x9_1 a1_0 a1_1 a1_2 a1_3 = some r) ∧ Aside0 (kq ≤ k) ∧ Aside0 (Kd.R k25 25 w' w.heap.size (fun k_ => some k_ ≠ (v561 : Value).ownBlock ∧ some k_ ≠ (v564 : Value).ownBlock) (.slice Ao10 t557.length co10) t557) ∧ Aside0 (Kd.R k25 25 w' w.heap.size (fun k_ => some k_ ≠ ((.slice Ao10 t557.length co10) : Value).ownBlock ∧ some k_ ≠ (v564 : Value).ownBlock) v561 t560) ∧ Aside0 (Kd.R k25 25 w' w.heap.size (fun k_ => some k_ ≠ ((.slice Ao10 t557.length co10) : Value).ownBlock ∧ some k_ ≠ (v561 : Value).ownBlock) v564 x7_1) ∧ Aside0 (w'.heap[gb555]? = some (.cells #[.int .u32 a1_0, .int .u16 a1_1, .int .i64 a1_2, .int .i64 a1_3] 49 (0, 0))) ∧ Aside0 (Below w.heap.size w w'))
  case atStart => exact ⟨(t563), (0), (by first | rfl | (simp; done) | (simp [*]; done)), H', ⟨Nat.le_refl _⟩, ⟨by (with_reducible repeat (first | apply Kd.R_alloc | apply Kd.R_drewN | apply Kd.R_drew)); exact Kd.R_mono HO559.out (fun _ hk => ⟨hk.1.2, hk.2⟩)⟩, ⟨by (with_reducible repeat (first | apply Kd.R_alloc | apply Kd.R_drewN | apply Kd.R_drew)); exact Kd.R_mono HO562.out (fun _ hk => ⟨hk.1.2, hk.2⟩)⟩, ⟨by (with_reducible repeat (first | apply Kd.R_alloc | apply Kd.R_drewN | apply Kd.R_drew)); exact Kd.R_mono HO565.out (fun _ hk => ⟨hk.1.2, hk.2⟩)⟩, ⟨by (with_reducible repeat (first | refine blk_drewN ?_ _ | refine blk_drew ?_ | refine blk_alloc ?_ _)); exact BK555.out⟩, ⟨by repeat (first | (with_reducible first | exact HB.out | apply below_alloc | apply pw_below_drewN | apply below_drew1 | refine below_set ?_ GE555.out) | exact HB.out)⟩⟩
  case round =>
    clear H'
    try clear c1
    try clear c2
    try clear p2
    try clear c3
    try clear c11
    try clear hcz12_0
    try clear hcz12_1
    try clear hcz12_2
    try clear hcz12_3
    try clear hfz12_0
    try clear hfz12_1
    try clear hfz12_2
    try clear hfz12_3
    obtain ⟨x7_1, x9_1, rfl, HA, HK1, HO_0, HO_6, HO_7, BK555, HB⟩ := hrel
    cases gk with
    | zero => exact absurd HA.out (by simp [bazaarlaw15_ShopOwn.l0])
    | succ k1 =>
      have H := HA.out
      clear HA
      simp only [bazaarlaw15_ShopOwn.l0] at H
      by_cases c14 : x9_1 < (x7_1.length : Int)
      · rw [if_pos c14] at H
        have c14b0 : decide (x9_1 < (x7_1.length : Int)) = true := decide_eq_true c14
        clear c14
        by_cases c15 : 0 ≤ x9_1
        · rw [if_pos c15] at H
          have c15b0 : decide (0 ≤ x9_1) = true := decide_eq_true c15
          clear c15
          obtain ⟨y567, hy567⟩ : ∃ y_ : List (S25), y_ = (x7_1.set (x9_1 : Int).toNat (⟨(rd_T25 x7_1 x9_1).f0, (-1)⟩ : S25)) := ⟨_, rfl⟩
          replace H : (bazaarlaw15_ShopOwn.l0 k1 t557 t556 t560 y567 (wrap64 (x9_1 + 1)) a1_0 a1_1 a1_2 a1_3) = some r := by first | (rw [hy567]; with_reducible exact H) | (have H2_ := (Option.bind_some _ _).symm.trans H; rw [hy567]; with_reducible exact H2_) | (have H2_ := (Option.bind_some _ _).symm.trans H; with_reducible exact H2_) | with_reducible exact H | (rw [hy567]; exact H) | exact H
          have Ny567 := Aside0.mk hy567
          clear hy567
          have H' := Aside0.mk H
          clear H
          obtain ⟨Ao17, co17, eo17⟩ := Kd.R_slice HO_7.out
          subst eo17
          have p16 : 0 ≤ (x9_1 : Int) := of_decide_eq_true (by first | (with_reducible assumption) | assumption)
          have q16 : (x9_1 : Int) < ((x7_1.length : Int) : Int) := of_decide_eq_true (by first | (with_reducible assumption) | assumption)
          obtain ⟨go16, co16, eo16, gb16, gl16, cl16, HG16⟩ := Kd.R_form HO_7.out (by omega)
          (first | cases eo16 | (injection eo16 with ea_ en_ ec_; (first | subst ea_ | (injection ea_ with ea_; subst ea_)); subst ec_; clear en_))
          have GB16 := Aside0.mk gb16
          have GG16 := Aside0.mk HG16
          clear gb16 gl16 HG16
          obtain ⟨ce16, hcl16, hM16, hcc16, hfr16⟩ := Kd.R_elem HO_7.out z25 (x9_1 : Int) p16 q16
          obtain rfl := k25_openM hM16
          have hx16_0 : wr.cell? ⟨go16, (x9_1 : Int).toNat * 2, none⟩ = some (.int .u16 ((rd_T25 x7_1 x9_1).f0)) := hcc16 0 _ rfl
          have hx16_1 : wr.cell? ⟨go16, (x9_1 : Int).toNat * 2 + 1, none⟩ = some (.int .i64 ((rd_T25 x7_1 x9_1).f1)) := hcc16 1 _ rfl
          have hf16_0 : wr.frozen? ⟨go16, (x9_1 : Int).toNat * 2, none⟩ = false := hfr16 0
          have hf16_1 : wr.frozen? ⟨go16, (x9_1 : Int).toNat * 2 + 1, none⟩ = false := hfr16 1
          clear hcl16 hcc16 hfr16 hM16
          replace p16 := eq_true p16
          replace q16 := eq_true q16
          have HX18 := Aside0.mk (show Kd.R k25 25 wr w.heap.size (fun k_ => some k_ ≠ (.slice Ao10 t557.length co10 : Value).ownBlock ∧ some k_ ≠ (v561 : Value).ownBlock) (.slice (some ⟨go16, 0, none⟩) x7_1.length co17) x7_1 from (by (with_reducible repeat (first | apply Kd.R_alloc | apply Kd.R_drewN | apply Kd.R_drew)); exact HO_7.out))
          obtain ⟨ce18, hcl18, hM18, hcc18, hfr18⟩ := Kd.R_elem HX18.out z25 (x9_1 : Int) (of_decide_eq_true (by first | (with_reducible assumption) | assumption)) (by have h_ : (x9_1 : Int) < ((x7_1.length : Int) : Int) := of_decide_eq_true (by first | (with_reducible assumption) | assumption); first | exact h_ | (have e_ := (Kd.R_reads' HO_7.out).1; omega) | simpa using h_)
          obtain rfl := k25_openM hM18
          have HP18 := Kd.R_seg HX18.out (x9_1 : Int) (of_decide_eq_true (by first | (with_reducible assumption) | assumption)) (by have h_ : (x9_1 : Int) < ((x7_1.length : Int) : Int) := of_decide_eq_true (by first | (with_reducible assumption) | assumption); first | exact h_ | (have e_ := (Kd.R_reads' HO_7.out).1; omega) | simpa using h_) (seg := [.int .i64 (-1)]) (j := 1) hcl18 hcc18 (show 2 ≤ 2 from by decide) (x' := (⟨(rd_T25 x7_1 x9_1).f0, (-1)⟩ : S25)) (k25_mkM _ _ _ (⟨(rd_T25 x7_1 x9_1).f0, (-1)⟩ : S25) ) (fun _ hk => hk)
          have hx18_1 := hcc18 1 _ rfl
          (try simp only [show (k25).sz = 2 from rfl, Nat.mul_one, Nat.add_zero] at hx18_1)
          have hf18_1 := hfr18 1
          (try simp only [show (k25).sz = 2 from rfl, Nat.mul_one, Nat.add_zero] at hf18_1)
          clear hcl18 hcc18 hfr18 hM18
          go_wp2_with (first | ((with_reducible refine gate_store (t := 2) (p := 33) rfl ?_); refine store_event (t := 2) (p := 33) (v := ?vo_w19) (w1 := (wr.setCell ⟨go16, (x9_1 : Int).toNat * 2 + 1, none⟩ (.int .i64 (-1)))) ?hg ?ho ?hn ?hr ?_; (case ho => rfl); (case hg => rfl); (case hn => rfl); (case hr => first | (go_simp; done) | (go_simp; rfl)); intro w19 hw; have hg : wr.grownBy w19 (some go16) := (by rw [hw]; exact HP18.2); have hp_ : Kd.R k25 25 w19 w.heap.size (fun k_ => some k_ ≠ (.slice Ao10 t557.length co10 : Value).ownBlock ∧ some k_ ≠ (v561 : Value).ownBlock) (.slice (some ⟨go16, 0, none⟩) x7_1.length co17) y567 := (by rw [hw, Ny567.out]; exact HP18.1); clear HP18; have n0_ := Aside0.mk (Kd.R_after (v := (.slice (some ⟨go16, 0, none⟩) x7_1.length co17)) (v1 := (.slice (some ⟨go16, 0, none⟩) x7_1.length co17)) (ok := (fun k_ => some k_ ≠ (v561 : Value).ownBlock)) (by (with_reducible repeat (first | apply Kd.R_alloc | apply Kd.R_drewN | apply Kd.R_drew)); exact HO_0.out) hg (.inl rfl)); have n1_ := Aside0.mk (Kd.R_after (v := (.slice (some ⟨go16, 0, none⟩) x7_1.length co17)) (v1 := (.slice (some ⟨go16, 0, none⟩) x7_1.length co17)) (ok := (fun k_ => some k_ ≠ (.slice Ao10 t557.length co10 : Value).ownBlock)) (by (with_reducible repeat (first | apply Kd.R_alloc | apply Kd.R_drewN | apply Kd.R_drew)); exact HO_6.out) hg (.inl rfl)); have n2_ := Aside0.mk (hp_); have n3_ := Aside0.mk (blk_grown (g := gb555) (o := .cells #[.int .u32 a1_0, .int .u16 a1_1, .int .i64 a1_2, .int .i64 a1_3] 49 (0, 0)) (by (with_reducible repeat (first | refine blk_drewN ?_ _ | refine blk_drew ?_ | refine blk_alloc ?_ _)); exact BK555.out) hg (Kd.R_ne HO_7.out BK555.out (by decide))); have n4_ := Aside0.mk ((by rw [hw]; exact below_set (HB.out) GB16.out : Below w.heap.size w w19)); clear HO_0; clear HO_6; clear HO_7; clear BK555; clear HB; have HO_0 := n0_; have HO_6 := n1_; have HO_7 := n2_; have BK555 := n3_; have HB := n4_; clear n0_ n1_ n2_ n3_ n4_; clear hg hw hp_))
          go_roundg k1
          case measure => have := HK1.out; omega
          case rel => exact ⟨(y567), (wrap64 (x9_1 + 1)), (by first | rfl | (simp; done) | (simp [*]; done)), H', ⟨by have := HK1.out; omega⟩, ⟨by (with_reducible repeat (first | apply Kd.R_alloc | apply Kd.R_drewN | apply Kd.R_drew)); exact HO_0.out⟩, ⟨by (with_reducible repeat (first | apply Kd.R_alloc | apply Kd.R_drewN | apply Kd.R_drew)); exact HO_6.out⟩, ⟨by (with_reducible repeat (first | apply Kd.R_alloc | apply Kd.R_drewN | apply Kd.R_drew)); exact HO_7.out⟩, ⟨by (with_reducible repeat (first | refine blk_drewN ?_ _ | refine blk_drew ?_ | refine blk_alloc ?_ _)); exact BK555.out⟩, ⟨by repeat (first | (with_reducible first | exact HB.out | apply below_alloc | apply pw_below_drewN | apply below_drew1 | refine below_set ?_ GE555.out) | exact HB.out)⟩⟩
        · rw [if_neg c15] at H
          exact absurd H (by simp)
      · rw [if_neg c14] at H
        have c14b0 : decide (x9_1 < (x7_1.length : Int)) = false := decide_eq_false c14
        clear c14
        replace H := Option.bind_eq_some_iff.mp H
        obtain ⟨⟨t568, t571⟩, A200, H⟩ := H
        replace H : (bazaarlaw15_ShopOwn.l1 k1 t557 t556 t560 t568 0) = some r := H
        have A20 := Aside0.mk A200
        clear A200
        have H' := Aside0.mk H
        clear H
        obtain ⟨Ao21, co21, eo21⟩ := Kd.R_slice HO_7.out
        subst eo21
        have hcz22_0 : wr.cell? ⟨gb555, 0, none⟩ = some (.int .u32 a1_0) := (blk_cell BK555.out 0).trans rfl
        have hcz22_1 : wr.cell? ⟨gb555, 1, none⟩ = some (.int .u16 a1_1) := (blk_cell BK555.out 1).trans rfl
        have hcz22_2 : wr.cell? ⟨gb555, 2, none⟩ = some (.int .i64 a1_2) := (blk_cell BK555.out 2).trans rfl
        have hcz22_3 : wr.cell? ⟨gb555, 3, none⟩ = some (.int .i64 a1_3) := (blk_cell BK555.out 3).trans rfl
        have hfz22_0 := blk_frozen BK555.out 0
        have hfz22_1 := blk_frozen BK555.out 1
        have hfz22_2 := blk_frozen BK555.out 2
        have hfz22_3 := blk_frozen BK555.out 3
        go_wp2_with (first | ((with_reducible refine gate_callee (f := 34) rfl ?_); refine goesL_ (some 37) rfl rfl Tryd.func34 (by kernel_rfl) rfl #[.slice Ao10 t557.length co10, .agg #[.int .u32 a1_0, .int .u16 a1_1, .int .i64 a1_2, .int .i64 a1_3]] rfl (by (try simp only [List.map_toArray, List.map_cons, List.map_nil]); first | done | rfl | (simp only [List.length_drop, List.length_take]; rfl)) ?_; (with_reducible refine (shop_Cancel.calls _ _ t557 a1_0 a1_1 a1_2 a1_3 t568 t571 _ ?side1 ?side2 ?side3 A20.out).mono ?_); (case side1 => exact Laid_below HLD.out (by repeat (first | (with_reducible first | exact HB.out | apply below_alloc | apply pw_below_drewN | apply below_drew1 | refine below_set ?_ GE555.out) | exact HB.out))); (case side2 => repeat (first | exact (Kd.R_reads' HO_0.out).2.2 | (with_reducible refine Kd.C_alloc ?_ _) | (with_reducible refine Kd.C_drewN ?_ _) | (with_reducible refine Kd.C_drew ?_))); (case side3 => exact (Kd.R_reads' HO_0.out).2.1); rintro e w23 ⟨v569, rfl, ho0, hb⟩; refine ⟨_, rfl, ?_⟩; have n0_ := Aside0.mk (Kd.R_elder' (by (with_reducible repeat (first | apply Kd.R_alloc | apply Kd.R_drewN | apply Kd.R_drew)); exact HO_0.out) (Kd.R_base ho0) hb); have n1_ := Aside0.mk (Kd.R_elder' (by (with_reducible repeat (first | apply Kd.R_alloc | apply Kd.R_drewN | apply Kd.R_drew)); exact HO_6.out) (Kd.R_base ho0) hb); have n2_ := Aside0.mk (Kd.R_elder' (by (with_reducible repeat (first | apply Kd.R_alloc | apply Kd.R_drewN | apply Kd.R_drew)); exact HO_7.out) (Kd.R_base ho0) hb); have n3_ := Aside0.mk (Kd.R_lower (Kd.R_new' (Kd.R_new' (Kd.R_new' ho0 (Kd.R_lt (by (with_reducible repeat (first | apply Kd.R_alloc | apply Kd.R_drewN | apply Kd.R_drew)); exact HO_0.out))) (Kd.R_lt (by (with_reducible repeat (first | apply Kd.R_alloc | apply Kd.R_drewN | apply Kd.R_drew)); exact HO_6.out))) (Kd.R_lt (by (with_reducible repeat (first | apply Kd.R_alloc | apply Kd.R_drewN | apply Kd.R_drew)); exact HO_7.out))) (below_size (by repeat (first | (with_reducible first | exact HB.out | apply below_alloc | apply pw_below_drewN | apply below_drew1 | refine below_set ?_ GE555.out) | exact HB.out)))); have n4_ := Aside0.mk (blk_below (g := gb555) (o := .cells #[.int .u32 a1_0, .int .u16 a1_1, .int .i64 a1_2, .int .i64 a1_3] 49 (0, 0)) (by (with_reducible repeat (first | refine blk_drewN ?_ _ | refine blk_drew ?_ | refine blk_alloc ?_ _)); exact BK555.out) hb); have n5_ := Aside0.mk (below_step (by repeat (first | (with_reducible first | exact HB.out | apply below_alloc | apply pw_below_drewN | apply below_drew1 | refine below_set ?_ GE555.out) | exact HB.out)) hb); clear HO_0; clear HO_6; clear HO_7; clear BK555; clear HB; have HO_0 := n0_; have HO_6 := n1_; have HO_7 := n2_; have HO570 := n3_; have BK555 := n4_; have HB := n5_; clear n0_ n1_ n2_ n3_ n4_ n5_; (try clear hb); (try clear hb2); (try clear hk); (try clear hi); (try clear ho0)))
        go_loopg [12] k1 (fun kq v12 w' => ∃ (x10_2 : List (S25)) (x12_2 : Int), v12 = .int .i64 x12_2 ∧ Aside0 (bazaarlaw15_ShopOwn.l1 kq t557 t556 t560 x10_2 x12_2 = some r) ∧ Aside0 (kq ≤ k1) ∧ Aside0 (Kd.R k25 25 w' w.heap.size (fun k_ => some k_ ≠ (v561 : Value).ownBlock ∧ some k_ ≠ (v569 : Value).ownBlock) (.slice Ao10 t557.length co10) t557) ∧ Aside0 (Kd.R k25 25 w' w.heap.size (fun k_ => some k_ ≠ ((.slice Ao10 t557.length co10) : Value).ownBlock ∧ some k_ ≠ (v569 : Value).ownBlock) v561 t560) ∧ Aside0 (Kd.R k25 25 w' w.heap.size (fun k_ => some k_ ≠ ((.slice Ao10 t557.length co10) : Value).ownBlock ∧ some k_ ≠ (v561 : Value).ownBlock) v569 x10_2) ∧ Aside0 (w'.heap[gb555]? = some (.cells #[.int .u32 a1_0, .int .u16 a1_1, .int .i64 a1_2, .int .i64 a1_3] 49 (0, 0))) ∧ Aside0 (Below w.heap.size w w'))
        case atStart => exact ⟨(t568), (0), (by first | rfl | (simp; done) | (simp [*]; done)), H', ⟨Nat.le_refl _⟩, ⟨by (with_reducible repeat (first | apply Kd.R_alloc | apply Kd.R_drewN | apply Kd.R_drew)); exact Kd.R_mono HO_0.out (fun _ hk => ⟨hk.1.1, hk.2⟩)⟩, ⟨by (with_reducible repeat (first | apply Kd.R_alloc | apply Kd.R_drewN | apply Kd.R_drew)); exact Kd.R_mono HO_6.out (fun _ hk => ⟨hk.1.1, hk.2⟩)⟩, ⟨by (with_reducible repeat (first | apply Kd.R_alloc | apply Kd.R_drewN | apply Kd.R_drew)); exact Kd.R_mono HO570.out (fun _ hk => ⟨hk.1.1.2, hk.1.2⟩)⟩, ⟨by (with_reducible repeat (first | refine blk_drewN ?_ _ | refine blk_drew ?_ | refine blk_alloc ?_ _)); exact BK555.out⟩, ⟨by repeat (first | (with_reducible first | exact HB.out | apply below_alloc | apply pw_below_drewN | apply below_drew1 | refine below_set ?_ GE555.out) | exact HB.out)⟩⟩
        case round =>
          clear H'
          try clear c1
          try clear p1
          try clear q1
          try clear hx1
          try clear c2
          try clear p2
          try clear c3
          try clear p6
          try clear c11
          try clear c14
          try clear c14b0
          try clear c15
          try clear c15b0
          try clear c16
          try clear p16
          try clear q16
          try clear hx16
          try clear hf16
          try clear c18
          try clear hx18
          try clear hf18
          try clear hcz12_0
          try clear hcz12_1
          try clear hcz12_2
          try clear hcz12_3
          try clear hcz22_0
          try clear hcz22_1
          try clear hcz22_2
          try clear hcz22_3
          try clear hfz12_0
          try clear hfz12_1
          try clear hfz12_2
          try clear hfz12_3
          try clear hfz22_0
          try clear hfz22_1
          try clear hfz22_2
          try clear hfz22_3
          try clear hx16_0
          try clear hx16_1
          try clear hx18_1
          try clear p16
          try clear p2
          try clear q16
          obtain ⟨x10_2, x12_2, rfl, HA, HK2, HO_0, HO_6, HO_10, BK555, HB⟩ := hrel
          cases gk with
          | zero => exact absurd HA.out (by simp [bazaarlaw15_ShopOwn.l1])
          | succ k2 =>
            have H := HA.out
            clear HA
            simp only [bazaarlaw15_ShopOwn.l1] at H
            by_cases c24 : x12_2 < (x10_2.length : Int)
            · rw [if_pos c24] at H
              have c24b0 : decide (x12_2 < (x10_2.length : Int)) = true := decide_eq_true c24
              clear c24
              by_cases c25 : 0 ≤ x12_2
              · rw [if_pos c25] at H
                have c25b0 : decide (0 ≤ x12_2) = true := decide_eq_true c25
                clear c25
                obtain ⟨y572, hy572⟩ : ∃ y_ : List (S25), y_ = (x10_2.set (x12_2 : Int).toNat (⟨(rd_T25 x10_2 x12_2).f0, (-1)⟩ : S25)) := ⟨_, rfl⟩
                replace H : (bazaarlaw15_ShopOwn.l1 k2 t557 t556 t560 y572 (wrap64 (x12_2 + 1))) = some r := by first | (rw [hy572]; with_reducible exact H) | (have H2_ := (Option.bind_some _ _).symm.trans H; rw [hy572]; with_reducible exact H2_) | (have H2_ := (Option.bind_some _ _).symm.trans H; with_reducible exact H2_) | with_reducible exact H | (rw [hy572]; exact H) | exact H
                have Ny572 := Aside0.mk hy572
                clear hy572
                have H' := Aside0.mk H
                clear H
                obtain ⟨Ao27, co27, eo27⟩ := Kd.R_slice HO_10.out
                subst eo27
                have p26 : 0 ≤ (x12_2 : Int) := of_decide_eq_true (by first | (with_reducible assumption) | assumption)
                have q26 : (x12_2 : Int) < ((x10_2.length : Int) : Int) := of_decide_eq_true (by first | (with_reducible assumption) | assumption)
                obtain ⟨go26, co26, eo26, gb26, gl26, cl26, HG26⟩ := Kd.R_form HO_10.out (by omega)
                (first | cases eo26 | (injection eo26 with ea_ en_ ec_; (first | subst ea_ | (injection ea_ with ea_; subst ea_)); subst ec_; clear en_))
                have GB26 := Aside0.mk gb26
                have GG26 := Aside0.mk HG26
                clear gb26 gl26 HG26
                obtain ⟨ce26, hcl26, hM26, hcc26, hfr26⟩ := Kd.R_elem HO_10.out z25 (x12_2 : Int) p26 q26
                obtain rfl := k25_openM hM26
                have hx26_0 : wr.cell? ⟨go26, (x12_2 : Int).toNat * 2, none⟩ = some (.int .u16 ((rd_T25 x10_2 x12_2).f0)) := hcc26 0 _ rfl
                have hx26_1 : wr.cell? ⟨go26, (x12_2 : Int).toNat * 2 + 1, none⟩ = some (.int .i64 ((rd_T25 x10_2 x12_2).f1)) := hcc26 1 _ rfl
                have hf26_0 : wr.frozen? ⟨go26, (x12_2 : Int).toNat * 2, none⟩ = false := hfr26 0
                have hf26_1 : wr.frozen? ⟨go26, (x12_2 : Int).toNat * 2 + 1, none⟩ = false := hfr26 1
                clear hcl26 hcc26 hfr26 hM26
                replace p26 := eq_true p26
                replace q26 := eq_true q26
                have HX28 := Aside0.mk (show Kd.R k25 25 wr w.heap.size (fun k_ => some k_ ≠ (.slice Ao10 t557.length co10 : Value).ownBlock ∧ some k_ ≠ (v561 : Value).ownBlock) (.slice (some ⟨go26, 0, none⟩) x10_2.length co27) x10_2 from (by (with_reducible repeat (first | apply Kd.R_alloc | apply Kd.R_drewN | apply Kd.R_drew)); exact HO_10.out))
                obtain ⟨ce28, hcl28, hM28, hcc28, hfr28⟩ := Kd.R_elem HX28.out z25 (x12_2 : Int) (of_decide_eq_true (by first | (with_reducible assumption) | assumption)) (by have h_ : (x12_2 : Int) < ((x10_2.length : Int) : Int) := of_decide_eq_true (by first | (with_reducible assumption) | assumption); first | exact h_ | (have e_ := (Kd.R_reads' HO_10.out).1; omega) | simpa using h_)
                obtain rfl := k25_openM hM28
                have HP28 := Kd.R_seg HX28.out (x12_2 : Int) (of_decide_eq_true (by first | (with_reducible assumption) | assumption)) (by have h_ : (x12_2 : Int) < ((x10_2.length : Int) : Int) := of_decide_eq_true (by first | (with_reducible assumption) | assumption); first | exact h_ | (have e_ := (Kd.R_reads' HO_10.out).1; omega) | simpa using h_) (seg := [.int .i64 (-1)]) (j := 1) hcl28 hcc28 (show 2 ≤ 2 from by decide) (x' := (⟨(rd_T25 x10_2 x12_2).f0, (-1)⟩ : S25)) (k25_mkM _ _ _ (⟨(rd_T25 x10_2 x12_2).f0, (-1)⟩ : S25) ) (fun _ hk => hk)
                have hx28_1 := hcc28 1 _ rfl
                (try simp only [show (k25).sz = 2 from rfl, Nat.mul_one, Nat.add_zero] at hx28_1)
                have hf28_1 := hfr28 1
                (try simp only [show (k25).sz = 2 from rfl, Nat.mul_one, Nat.add_zero] at hf28_1)
                clear hcl28 hcc28 hfr28 hM28
                go_wp2_with (first | ((with_reducible refine gate_store (t := 2) (p := 49) rfl ?_); refine store_event (t := 2) (p := 49) (v := ?vo_w29) (w1 := (wr.setCell ⟨go26, (x12_2 : Int).toNat * 2 + 1, none⟩ (.int .i64 (-1)))) ?hg ?ho ?hn ?hr ?_; (case ho => rfl); (case hg => rfl); (case hn => rfl); (case hr => first | (go_simp; done) | (go_simp; rfl)); intro w29 hw; have hg : wr.grownBy w29 (some go26) := (by rw [hw]; exact HP28.2); have hp_ : Kd.R k25 25 w29 w.heap.size (fun k_ => some k_ ≠ (.slice Ao10 t557.length co10 : Value).ownBlock ∧ some k_ ≠ (v561 : Value).ownBlock) (.slice (some ⟨go26, 0, none⟩) x10_2.length co27) y572 := (by rw [hw, Ny572.out]; exact HP28.1); clear HP28; have n0_ := Aside0.mk (Kd.R_after (v := (.slice (some ⟨go26, 0, none⟩) x10_2.length co27)) (v1 := (.slice (some ⟨go26, 0, none⟩) x10_2.length co27)) (ok := (fun k_ => some k_ ≠ (v561 : Value).ownBlock)) (by (with_reducible repeat (first | apply Kd.R_alloc | apply Kd.R_drewN | apply Kd.R_drew)); exact HO_0.out) hg (.inl rfl)); have n1_ := Aside0.mk (Kd.R_after (v := (.slice (some ⟨go26, 0, none⟩) x10_2.length co27)) (v1 := (.slice (some ⟨go26, 0, none⟩) x10_2.length co27)) (ok := (fun k_ => some k_ ≠ (.slice Ao10 t557.length co10 : Value).ownBlock)) (by (with_reducible repeat (first | apply Kd.R_alloc | apply Kd.R_drewN | apply Kd.R_drew)); exact HO_6.out) hg (.inl rfl)); have n2_ := Aside0.mk (hp_); have n3_ := Aside0.mk (blk_grown (g := gb555) (o := .cells #[.int .u32 a1_0, .int .u16 a1_1, .int .i64 a1_2, .int .i64 a1_3] 49 (0, 0)) (by (with_reducible repeat (first | refine blk_drewN ?_ _ | refine blk_drew ?_ | refine blk_alloc ?_ _)); exact BK555.out) hg (Kd.R_ne HO_10.out BK555.out (by decide))); have n4_ := Aside0.mk ((by rw [hw]; exact below_set (HB.out) GB26.out : Below w.heap.size w w29)); clear HO_0; clear HO_6; clear HO_10; clear BK555; clear HB; have HO_0 := n0_; have HO_6 := n1_; have HO_10 := n2_; have BK555 := n3_; have HB := n4_; clear n0_ n1_ n2_ n3_ n4_; clear hg hw hp_))
                go_roundg k2
                case measure => have := HK1.out; have := HK2.out; omega
                case rel => exact ⟨(y572), (wrap64 (x12_2 + 1)), (by first | rfl | (simp; done) | (simp [*]; done)), H', ⟨by have := HK1.out; have := HK2.out; omega⟩, ⟨by (with_reducible repeat (first | apply Kd.R_alloc | apply Kd.R_drewN | apply Kd.R_drew)); exact HO_0.out⟩, ⟨by (with_reducible repeat (first | apply Kd.R_alloc | apply Kd.R_drewN | apply Kd.R_drew)); exact HO_6.out⟩, ⟨by (with_reducible repeat (first | apply Kd.R_alloc | apply Kd.R_drewN | apply Kd.R_drew)); exact HO_10.out⟩, ⟨by (with_reducible repeat (first | refine blk_drewN ?_ _ | refine blk_drew ?_ | refine blk_alloc ?_ _)); exact BK555.out⟩, ⟨by repeat (first | (with_reducible first | exact HB.out | apply below_alloc | apply pw_below_drewN | apply below_drew1 | refine below_set ?_ GE555.out) | exact HB.out)⟩⟩
              · rw [if_neg c25] at H
                exact absurd H (by simp)
            · rw [if_neg c24] at H
              have c24b0 : decide (x12_2 < (x10_2.length : Int)) = false := decide_eq_false c24
              clear c24
              by_cases c30 : t556 = true
              · subst c30
                have H1 : ((bazaarref12_Same.f k2 t557 t560).bind fun t573 => (some t573)) = some r := by rw [if_pos rfl] at H; exact H
                clear H
                have H := H1
                clear H1
                replace H := Option.bind_eq_some_iff.mp H
                obtain ⟨t573, A310, H⟩ := H
                replace H : (some t573) = some r := H
                have A31 := Aside0.mk A310
                clear A310
                obtain rfl := Option.some.inj H
                obtain ⟨Ao32, co32, eo32⟩ := Kd.R_slice HO_10.out
                subst eo32
                obtain ⟨Ao33, co33, eo33⟩ := Kd.R_slice HO_6.out
                subst eo33
                go_wp2_with (first | (go_at_call 27; (with_reducible refine (bazaarref12_Same.calls k2 _ _ t557 _ _ t560 t573 _ ?side1 ?side2 ?side3 ?side4 ?side5 A31.out).mono ?_); (case side1 => exact Laid_below HLD.out (by repeat (first | (with_reducible first | exact HB.out | apply below_alloc | apply pw_below_drewN | apply below_drew1 | refine below_set ?_ GE555.out) | exact HB.out))); (case side2 => repeat (first | exact (Kd.R_reads' HO_0.out).2.2 | (with_reducible refine Kd.C_alloc ?_ _) | (with_reducible refine Kd.C_drewN ?_ _) | (with_reducible refine Kd.C_drew ?_))); (case side3 => exact (Kd.R_reads' HO_0.out).2.1); (case side4 => repeat (first | exact (Kd.R_reads' HO_6.out).2.2 | (with_reducible refine Kd.C_alloc ?_ _) | (with_reducible refine Kd.C_drewN ?_ _) | (with_reducible refine Kd.C_drew ?_))); (case side5 => exact (Kd.R_reads' HO_6.out).2.1); rintro e w34 ⟨rfl, hb⟩; have n0_ := Aside0.mk (Kd.R_below (by (with_reducible repeat (first | apply Kd.R_alloc | apply Kd.R_drewN | apply Kd.R_drew)); exact HO_0.out) hb); have n1_ := Aside0.mk (Kd.R_below (by (with_reducible repeat (first | apply Kd.R_alloc | apply Kd.R_drewN | apply Kd.R_drew)); exact HO_6.out) hb); have n2_ := Aside0.mk (Kd.R_below (by (with_reducible repeat (first | apply Kd.R_alloc | apply Kd.R_drewN | apply Kd.R_drew)); exact HO_10.out) hb); have n3_ := Aside0.mk (blk_below (g := gb555) (o := .cells #[.int .u32 a1_0, .int .u16 a1_1, .int .i64 a1_2, .int .i64 a1_3] 49 (0, 0)) (by (with_reducible repeat (first | refine blk_drewN ?_ _ | refine blk_drew ?_ | refine blk_alloc ?_ _)); exact BK555.out) hb); have n4_ := Aside0.mk (below_step (by repeat (first | (with_reducible first | exact HB.out | apply below_alloc | apply pw_below_drewN | apply below_drew1 | refine below_set ?_ GE555.out) | exact HB.out)) hb); clear HO_0; clear HO_6; clear HO_10; clear BK555; clear HB; have HO_0 := n0_; have HO_6 := n1_; have HO_10 := n2_; have BK555 := n3_; have HB := n4_; clear n0_ n1_ n2_ n3_ n4_; (try clear hb); (try clear hb2); (try clear hk); (try clear hi)))
                go_ret
                exact ⟨by first | rfl | (simp [errW_none, errW_some] <;> rfl) | (simp [*, errW_none, errW_some] <;> rfl), by repeat (first | (with_reducible first | exact HB.out | apply below_alloc | apply pw_below_drewN | apply below_drew1 | refine below_set ?_ GE555.out) | exact HB.out)⟩
              · replace c30 := Bool.eq_false_iff.mpr c30
                subst c30
                have H1 : (some false) = some r := by rw [if_neg (show ¬ (false = true) by decide)] at H; exact H
                clear H
                have H := H1
                clear H1
                obtain rfl := Option.some.inj H
                obtain ⟨Ao35, co35, eo35⟩ := Kd.R_slice HO_10.out
                subst eo35
                go_wp2
                go_ret
                exact ⟨by first | rfl | (simp [errW_none, errW_some] <;> rfl) | (simp [*, errW_none, errW_some] <;> rfl), by repeat (first | (with_reducible first | exact HB.out | apply below_alloc | apply pw_below_drewN | apply below_drew1 | refine below_set ?_ GE555.out) | exact HB.out)⟩

end Go.Proofs.YtoclldkgkmhgaaaDoor.K
