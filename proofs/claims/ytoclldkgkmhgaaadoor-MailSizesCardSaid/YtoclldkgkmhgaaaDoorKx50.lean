-- Printed by a program of this session (a turned copy of the print); what it takes as given stands in the seat's own texts.
import Derived.Test.YtoclldkgkmhgaaaDoorKx0
import Derived.Test.YtoclldkgkmhgaaaDoorKx17
import Derived.Test.YtoclldkgkmhgaaaDoorKx22
import Derived.Test.YtoclldkgkmhgaaaDoorGiven
namespace Go.Proofs.YtoclldkgkmhgaaaDoor.K
open Go.RowKit Go.Proofs.YtoclldkgkmhgaaaDoorW.PrintWords Go.Proofs.YtoclldkgkmhgaaaDoorW.PrintLast Go.Proofs.YtoclldkgkmhgaaaDoorW.PrintMore
attribute [local go_sem] max2_int min2_int max_two min_two max_three min_three max_four min_four   -- for this text's walks alone
set_option linter.unusedVariables false
set_option linter.unusedSimpArgs false

/-! ### bazaarlaw14_MailOwn: function 6 -/
mutual
def bazaarlaw14_MailOwn.l0 : Nat → List (S25) → Bool → List (S25) → List (S25) → Int → Int → Int → Int → Int → Int → Int → Option (Bool)
  | 0, _, _, _, _, _, _, _, _, _, _, _ => none
  | k + 1, x1, x7, x8, x10, x12, x338000, x338001, x339000, x339001, x339002, x339003 => if x12 < (x10.length : Int) then (if 0 ≤ x12 then (bazaarlaw14_MailOwn.l0 k x1 x7 x8 (x10.set (x12 : Int).toNat (⟨(rd_T25 x10 x12).f0, (-1)⟩ : S25)) (wrap64 (x12 + 1)) x338000 x338001 x339000 x339001 x339002 x339003) else (none)) else ((mail_Claim.f x338000 x338001 x1 x339000 x339001 x339002 x339003).bind fun bt354 => (bazaarlaw14_MailOwn.l1 k x1 x7 x8 bt354.2.2.1 0))
def bazaarlaw14_MailOwn.l1 : Nat → List (S25) → Bool → List (S25) → List (S25) → Int → Option (Bool)
  | 0, _, _, _, _, _ => none
  | k + 1, x1, x7, x8, x14, x16 => if x16 < (x14.length : Int) then (if 0 ≤ x16 then (bazaarlaw14_MailOwn.l1 k x1 x7 x8 (x14.set (x16 : Int).toNat (⟨(rd_T25 x14 x16).f0, (-1)⟩ : S25)) (wrap64 (x16 + 1))) else (none)) else (if x7 = true then ((bazaarref12_Same.f k x1 x8).bind fun t362 => (some t362)) else (some false))
end
def bazaarlaw14_MailOwn.f (k : Nat) (a0_0 : Int) (a0_1 : Int) (l1 : List (S25)) (a2_0 : Int) (a2_1 : Int) (a2_2 : Int) (a2_3 : Int) : Option (Bool) := (bazaarlaw14_shown.f).bind fun t339 => ((bazaarlaw14_cut.f l1).bind fun t340 => ((bazaarlaw14_cut.f t340).bind fun t343 => ((mail_Send.f a0_0 a0_1 t340 a2_0 a2_1 a2_2 a2_3).bind fun bt346 => (bazaarlaw14_MailOwn.l0 k t340 t339 t343 bt346.2.2.1 0 a0_0 a0_1 a2_0 a2_1 a2_2 a2_3))))
theorem bazaarlaw14_MailOwn.mono_l : ∀ k, (∀ y0 y1 y2 y3 y4 y5 y6 y7 y8 y9 y10, LeO (bazaarlaw14_MailOwn.l0 k y0 y1 y2 y3 y4 y5 y6 y7 y8 y9 y10) (bazaarlaw14_MailOwn.l0 (k + 1) y0 y1 y2 y3 y4 y5 y6 y7 y8 y9 y10)) ∧ (∀ y0 y1 y2 y3 y4, LeO (bazaarlaw14_MailOwn.l1 k y0 y1 y2 y3 y4) (bazaarlaw14_MailOwn.l1 (k + 1) y0 y1 y2 y3 y4))
  | 0 => ⟨fun _ _ _ _ _ _ _ _ _ _ _ r h => by simp [bazaarlaw14_MailOwn.l0] at h, fun _ _ _ _ _ r h => by simp [bazaarlaw14_MailOwn.l1] at h⟩
  | k + 1 => by
    obtain ⟨ih0, ih1⟩ := bazaarlaw14_MailOwn.mono_l k
    refine ⟨?_, ?_⟩
    · intro y0 y1 y2 y3 y4 y5 y6 y7 y8 y9 y10
      unfold bazaarlaw14_MailOwn.l0
      repeat' first
      | (with_reducible exact ih0 _ _ _ _ _ _ _ _ _ _ _)
      | (with_reducible exact ih1 _ _ _ _ _)
      | (with_reducible exact bazaarref12_Same.mono _ _ _)
      | (with_reducible exact LeO.refl _)
      | (with_reducible exact LeO.none _)
      | (with_reducible refine LeO.ite ?_ ?_)
      | (with_reducible refine LeO.bind ?_ (fun _ => ?_))
      | exact ih0 _ _ _ _ _ _ _ _ _ _ _
      | exact ih1 _ _ _ _ _
      | exact bazaarref12_Same.mono _ _ _
      | exact LeO.none _
      | refine LeO.ite ?_ ?_
      | refine LeO.bind ?_ (fun _ => ?_)
    · intro y0 y1 y2 y3 y4
      unfold bazaarlaw14_MailOwn.l1
      repeat' first
      | (with_reducible exact ih0 _ _ _ _ _ _ _ _ _ _ _)
      | (with_reducible exact ih1 _ _ _ _ _)
      | (with_reducible exact bazaarref12_Same.mono _ _ _)
      | (with_reducible exact LeO.refl _)
      | (with_reducible exact LeO.none _)
      | (with_reducible refine LeO.ite ?_ ?_)
      | (with_reducible refine LeO.bind ?_ (fun _ => ?_))
      | exact ih0 _ _ _ _ _ _ _ _ _ _ _
      | exact ih1 _ _ _ _ _
      | exact bazaarref12_Same.mono _ _ _
      | exact LeO.none _
      | refine LeO.ite ?_ ?_
      | refine LeO.bind ?_ (fun _ => ?_)
theorem bazaarlaw14_MailOwn.mono : ∀ a0 a1 a2 a3 a4 a5 a6 k, LeO (bazaarlaw14_MailOwn.f k a0 a1 a2 a3 a4 a5 a6) (bazaarlaw14_MailOwn.f (k + 1) a0 a1 a2 a3 a4 a5 a6) := by
  intro a0 a1 a2 a3 a4 a5 a6 k
  obtain ⟨ih0, ih1⟩ := bazaarlaw14_MailOwn.mono_l k
  unfold bazaarlaw14_MailOwn.f
  repeat' first
      | (with_reducible exact ih0 _ _ _ _ _ _ _ _ _ _ _)
      | (with_reducible exact ih1 _ _ _ _ _)
      | (with_reducible exact bazaarref12_Same.mono _ _ _)
      | (with_reducible exact LeO.refl _)
      | (with_reducible exact LeO.none _)
      | (with_reducible refine LeO.ite ?_ ?_)
      | (with_reducible refine LeO.bind ?_ (fun _ => ?_))
      | exact ih0 _ _ _ _ _ _ _ _ _ _ _
      | exact ih1 _ _ _ _ _
      | exact bazaarref12_Same.mono _ _ _
      | exact LeO.none _
      | refine LeO.ite ?_ ?_
      | refine LeO.bind ?_ (fun _ => ?_)
set_option maxHeartbeats 8000000 in
set_option maxRecDepth 100000 in
theorem bazaarlaw14_MailOwn.calls (k : Nat) (a0_0 : Int) (a0_1 : Int) (A1 : Option Addr) (c1 : Nat) (l1 : List (S25)) (a2_0 : Int) (a2_1 : Int) (a2_2 : Int) (a2_3 : Int) (r : Bool) (w : World) (hL : Laid w) (hr1 : Kd.C k25 w A1 l1.length l1) (hc1 : l1.length ≤ c1) (h : bazaarlaw14_MailOwn.f k a0_0 a0_1 l1 a2_0 a2_1 a2_2 a2_3 = some r) :
    Calls Tryd.prog 6 #[.agg #[.int .i64 a0_0, .int .i64 a0_1], .slice A1 l1.length c1, .agg #[.int .u32 a2_0, .int .i64 a2_1, .int .u16 a2_2, .int .i64 a2_3]] w fun e w' => e = .returned (.bool r) ∧ Below w.heap.size w w' := by
  have hu38 := Tryd.underlying38
  have hu27 := Tryd.underlying27
  have HLD := Aside0.mk hL
  clear hL
  have HR1 := Aside0.mk hr1
  have HC1 := Aside0.mk hc1
  clear hr1 hc1
  have HB := Aside0.mk (Below.refl w.heap.size w)
  have H : ((bazaarlaw14_shown.f).bind fun t339 => ((bazaarlaw14_cut.f l1).bind fun t340 => ((bazaarlaw14_cut.f t340).bind fun t343 => ((mail_Send.f a0_0 a0_1 t340 a2_0 a2_1 a2_2 a2_3).bind fun bt346 => (bazaarlaw14_MailOwn.l0 k t340 t339 t343 bt346.2.2.1 0 a0_0 a0_1 a2_0 a2_1 a2_2 a2_3))))) = some r := h
  clear h
  replace H := Option.bind_eq_some_iff.mp H
  obtain ⟨t339, A40, H⟩ := H
  replace H : ((bazaarlaw14_cut.f l1).bind fun t340 => ((bazaarlaw14_cut.f t340).bind fun t343 => ((mail_Send.f a0_0 a0_1 t340 a2_0 a2_1 a2_2 a2_3).bind fun bt346 => (bazaarlaw14_MailOwn.l0 k t340 t339 t343 bt346.2.2.1 0 a0_0 a0_1 a2_0 a2_1 a2_2 a2_3)))) = some r := H
  have A4 := Aside0.mk A40
  clear A40
  replace H := Option.bind_eq_some_iff.mp H
  obtain ⟨t340, A50, H⟩ := H
  replace H : ((bazaarlaw14_cut.f t340).bind fun t343 => ((mail_Send.f a0_0 a0_1 t340 a2_0 a2_1 a2_2 a2_3).bind fun bt346 => (bazaarlaw14_MailOwn.l0 k t340 t339 t343 bt346.2.2.1 0 a0_0 a0_1 a2_0 a2_1 a2_2 a2_3))) = some r := H
  have A5 := Aside0.mk A50
  clear A50
  replace H := Option.bind_eq_some_iff.mp H
  obtain ⟨t343, A60, H⟩ := H
  replace H : ((mail_Send.f a0_0 a0_1 t340 a2_0 a2_1 a2_2 a2_3).bind fun bt346 => (bazaarlaw14_MailOwn.l0 k t340 t339 t343 bt346.2.2.1 0 a0_0 a0_1 a2_0 a2_1 a2_2 a2_3)) = some r := H
  have A6 := Aside0.mk A60
  clear A60
  replace H := Option.bind_eq_some_iff.mp H
  obtain ⟨⟨t346, t347, t348, t351⟩, A70, H⟩ := H
  replace H : (bazaarlaw14_MailOwn.l0 k t340 t339 t343 t348 0 a0_0 a0_1 a2_0 a2_1 a2_2 a2_3) = some r := H
  have A7 := Aside0.mk A70
  clear A70
  have H' := Aside0.mk H
  clear H
  go_enter Tryd.func6, Tryd.ntmps6
  go_wp2_with (first | ((with_reducible refine gate_dst (N := 3) rfl ?_); refine box_event ?hg (N := 3) ?hd (cs := #[.int .i64 a0_0, .int .i64 a0_1]) (t := 38) ?hr ?_; (case hd => rfl); (case hg => rfl); (case hr => first | (go_simp; done) | (go_simp; rfl)); intro gb337 hg w8 hbox hb; have n0_ := Aside0.mk (below_step (by repeat (first | (with_reducible first | exact HB.out | apply below_alloc | apply pw_below_drewN | apply below_drew1) | exact HB.out)) hb); have n1_ := Aside0.mk (hbox); have n2_ := Aside0.mk ((by rw [hg]; exact (below_size (by repeat (first | (with_reducible first | exact HB.out | apply below_alloc | apply pw_below_drewN | apply below_drew1) | exact HB.out))) : w.heap.size ≤ gb337)); have n3_ := Aside0.mk ((by rw [hg]; exact (below_size (by repeat (first | (with_reducible first | exact HB.out | apply below_alloc | apply pw_below_drewN | apply below_drew1) | exact HB.out))) : w.heap.size ≤ gb337)); clear HB; have HB := n0_; have BK337 := n1_; have GW337 := n2_; have GE337 := n3_; clear n0_ n1_ n2_ n3_; clear hb hbox hg) | ((with_reducible refine gate_dst (N := 5) rfl ?_); refine box_event ?hg (N := 5) ?hd (cs := #[.int .u32 a2_0, .int .i64 a2_1, .int .u16 a2_2, .int .i64 a2_3]) (t := 27) ?hr ?_; (case hd => rfl); (case hg => rfl); (case hr => first | (go_simp; done) | (go_simp; rfl)); intro gb338 hg w9 hbox hb; have n0_ := Aside0.mk (blk_below (g := gb337) (o := .cells #[.int .i64 a0_0, .int .i64 a0_1] 38 (0, 0)) (by (with_reducible repeat (first | refine blk_drewN ?_ _ | refine blk_drew ?_ | refine blk_alloc ?_ _)); exact BK337.out) hb); have n1_ := Aside0.mk (below_step (by repeat (first | (with_reducible first | exact HB.out | apply below_alloc | apply pw_below_drewN | apply below_drew1 | refine below_set ?_ GE337.out) | exact HB.out)) hb); have n2_ := Aside0.mk (hbox); have n3_ := Aside0.mk ((by rw [hg]; exact (below_size (by repeat (first | (with_reducible first | exact HB.out | apply below_alloc | apply pw_below_drewN | apply below_drew1 | refine below_set ?_ GE337.out) | exact HB.out))) : w.heap.size ≤ gb338)); have n4_ := Aside0.mk ((by rw [hg]; exact (below_size (by repeat (first | (with_reducible first | exact HB.out | apply below_alloc | apply pw_below_drewN | apply below_drew1 | refine below_set ?_ GE337.out) | exact HB.out))) : w.heap.size ≤ gb338)); have n5_ := Aside0.mk ((by rw [hg]; exact Nat.ne_of_lt (blk_lt (g := gb337) (o := .cells #[.int .i64 a0_0, .int .i64 a0_1] 38 (0, 0)) (by (with_reducible repeat (first | refine blk_drewN ?_ _ | refine blk_drew ?_ | refine blk_alloc ?_ _)); exact BK337.out)) : gb337 ≠ gb338)); have n6_ := Aside0.mk ((by rw [hg]; exact Nat.ne_of_gt (blk_lt (g := gb337) (o := .cells #[.int .i64 a0_0, .int .i64 a0_1] 38 (0, 0)) (by (with_reducible repeat (first | refine blk_drewN ?_ _ | refine blk_drew ?_ | refine blk_alloc ?_ _)); exact BK337.out)) : gb338 ≠ gb337)); clear BK337; clear HB; have BK337 := n0_; have HB := n1_; have BK338 := n2_; have GW338 := n3_; have GE338 := n4_; have NB337_338 := n5_; have NB338_337 := n6_; clear n0_ n1_ n2_ n3_ n4_ n5_ n6_; clear hb hbox hg) | ((with_reducible refine gate_callee (f := 15) rfl ?_); refine goesL_ (some 17) rfl rfl Tryd.func15 (by kernel_rfl) rfl #[] rfl (by (try simp only [List.map_toArray, List.map_cons, List.map_nil]); first | done | rfl | (simp only [List.length_drop, List.length_take]; rfl)) ?_; (with_reducible refine (bazaarlaw14_shown.calls  t339 _ ?side1 A4.out).mono ?_); (case side1 => exact Laid_below HLD.out (by repeat (first | (with_reducible first | exact HB.out | apply below_alloc | apply pw_below_drewN | apply below_drew1 | refine below_set ?_ GE337.out | refine below_set ?_ GE338.out) | exact HB.out))); rintro e w10 ⟨rfl, hb⟩; refine ⟨_, rfl, ?_⟩; have n0_ := Aside0.mk (blk_below (g := gb337) (o := .cells #[.int .i64 a0_0, .int .i64 a0_1] 38 (0, 0)) (by (with_reducible repeat (first | refine blk_drewN ?_ _ | refine blk_drew ?_ | refine blk_alloc ?_ _)); exact BK337.out) hb); have n1_ := Aside0.mk (blk_below (g := gb338) (o := .cells #[.int .u32 a2_0, .int .i64 a2_1, .int .u16 a2_2, .int .i64 a2_3] 27 (0, 0)) (by (with_reducible repeat (first | refine blk_drewN ?_ _ | refine blk_drew ?_ | refine blk_alloc ?_ _)); exact BK338.out) hb); have n2_ := Aside0.mk (below_step (by repeat (first | (with_reducible first | exact HB.out | apply below_alloc | apply pw_below_drewN | apply below_drew1 | refine below_set ?_ GE337.out | refine below_set ?_ GE338.out) | exact HB.out)) hb); clear BK337; clear BK338; clear HB; have BK337 := n0_; have BK338 := n1_; have HB := n2_; clear n0_ n1_ n2_; (try clear hb); (try clear hb2); (try clear hk); (try clear hi)) | ((with_reducible refine gate_callee (f := 22) rfl ?_); refine goesL_ (some 19) rfl rfl Tryd.func22 (by kernel_rfl) rfl #[.slice A1 l1.length c1] rfl (by (try simp only [List.map_toArray, List.map_cons, List.map_nil]); first | done | rfl | (simp only [List.length_drop, List.length_take]; rfl)) ?_; (with_reducible refine (bazaarlaw14_cut.calls _ _ l1 t340 _ ?side1 ?side2 ?side3 A5.out).mono ?_); (case side1 => exact Laid_below HLD.out (by repeat (first | (with_reducible first | exact HB.out | apply below_alloc | apply pw_below_drewN | apply below_drew1 | refine below_set ?_ GE337.out | refine below_set ?_ GE338.out) | exact HB.out))); (case side2 => repeat (first | exact (Kd.C_below HR1.out HB.out) | (with_reducible refine Kd.C_alloc ?_ _) | (with_reducible refine Kd.C_drewN ?_ _) | (with_reducible refine Kd.C_drew ?_))); (case side3 => exact HC1.out); rintro e w11 ⟨v341, rfl, ho0, hb⟩; refine ⟨_, rfl, ?_⟩; have n0_ := Aside0.mk (Kd.R_lower ho0 (below_size (by repeat (first | (with_reducible first | exact HB.out | apply below_alloc | apply pw_below_drewN | apply below_drew1 | refine below_set ?_ GE337.out | refine below_set ?_ GE338.out) | exact HB.out)))); have n1_ := Aside0.mk (blk_below (g := gb337) (o := .cells #[.int .i64 a0_0, .int .i64 a0_1] 38 (0, 0)) (by (with_reducible repeat (first | refine blk_drewN ?_ _ | refine blk_drew ?_ | refine blk_alloc ?_ _)); exact BK337.out) hb); have n2_ := Aside0.mk (blk_below (g := gb338) (o := .cells #[.int .u32 a2_0, .int .i64 a2_1, .int .u16 a2_2, .int .i64 a2_3] 27 (0, 0)) (by (with_reducible repeat (first | refine blk_drewN ?_ _ | refine blk_drew ?_ | refine blk_alloc ?_ _)); exact BK338.out) hb); have n3_ := Aside0.mk (below_step (by repeat (first | (with_reducible first | exact HB.out | apply below_alloc | apply pw_below_drewN | apply below_drew1 | refine below_set ?_ GE337.out | refine below_set ?_ GE338.out) | exact HB.out)) hb); clear BK337; clear BK338; clear HB; have HO342 := n0_; have BK337 := n1_; have BK338 := n2_; have HB := n3_; clear n0_ n1_ n2_ n3_; (try clear hb); (try clear hb2); (try clear hk); (try clear hi); (try clear ho0); obtain ⟨Ao12, co12, eo12⟩ := Kd.R_slice HO342.out; subst eo12) | ((with_reducible refine gate_callee (f := 22) rfl ?_); refine goesL_ (some 21) rfl rfl Tryd.func22 (by kernel_rfl) rfl #[.slice Ao12 t340.length co12] rfl (by (try simp only [List.map_toArray, List.map_cons, List.map_nil]); first | done | rfl | (simp only [List.length_drop, List.length_take]; rfl)) ?_; (with_reducible refine (bazaarlaw14_cut.calls _ _ t340 t343 _ ?side1 ?side2 ?side3 A6.out).mono ?_); (case side1 => exact Laid_below HLD.out (by repeat (first | (with_reducible first | exact HB.out | apply below_alloc | apply pw_below_drewN | apply below_drew1 | refine below_set ?_ GE337.out | refine below_set ?_ GE338.out) | exact HB.out))); (case side2 => repeat (first | exact (Kd.R_reads' HO342.out).2.2 | (with_reducible refine Kd.C_alloc ?_ _) | (with_reducible refine Kd.C_drewN ?_ _) | (with_reducible refine Kd.C_drew ?_))); (case side3 => exact (Kd.R_reads' HO342.out).2.1); rintro e w13 ⟨v344, rfl, ho0, hb⟩; refine ⟨_, rfl, ?_⟩; have n0_ := Aside0.mk (Kd.R_elder' (by (with_reducible repeat (first | apply Kd.R_alloc | apply Kd.R_drewN | apply Kd.R_drew)); exact HO342.out) (Kd.R_base ho0) hb); have n1_ := Aside0.mk (Kd.R_lower (Kd.R_new' ho0 (Kd.R_lt (by (with_reducible repeat (first | apply Kd.R_alloc | apply Kd.R_drewN | apply Kd.R_drew)); exact HO342.out))) (below_size (by repeat (first | (with_reducible first | exact HB.out | apply below_alloc | apply pw_below_drewN | apply below_drew1 | refine below_set ?_ GE337.out | refine below_set ?_ GE338.out) | exact HB.out)))); have n2_ := Aside0.mk (blk_below (g := gb337) (o := .cells #[.int .i64 a0_0, .int .i64 a0_1] 38 (0, 0)) (by (with_reducible repeat (first | refine blk_drewN ?_ _ | refine blk_drew ?_ | refine blk_alloc ?_ _)); exact BK337.out) hb); have n3_ := Aside0.mk (blk_below (g := gb338) (o := .cells #[.int .u32 a2_0, .int .i64 a2_1, .int .u16 a2_2, .int .i64 a2_3] 27 (0, 0)) (by (with_reducible repeat (first | refine blk_drewN ?_ _ | refine blk_drew ?_ | refine blk_alloc ?_ _)); exact BK338.out) hb); have n4_ := Aside0.mk (below_step (by repeat (first | (with_reducible first | exact HB.out | apply below_alloc | apply pw_below_drewN | apply below_drew1 | refine below_set ?_ GE337.out | refine below_set ?_ GE338.out) | exact HB.out)) hb); clear HO342; clear BK337; clear BK338; clear HB; have HO342 := n0_; have HO345 := n1_; have BK337 := n2_; have BK338 := n3_; have HB := n4_; clear n0_ n1_ n2_ n3_ n4_; (try clear hb); (try clear hb2); (try clear hk); (try clear hi); (try clear ho0); have hnb14 := NB337_338.out; have hnc14 := NB338_337.out; have hcz15_0 : w13.cell? ⟨gb337, 0, none⟩ = some (.int .i64 a0_0) := (blk_cell BK337.out 0).trans rfl; have hcz15_1 : w13.cell? ⟨gb337, 1, none⟩ = some (.int .i64 a0_1) := (blk_cell BK337.out 1).trans rfl; have hfz15_0 := blk_frozen BK337.out 0; have hfz15_1 := blk_frozen BK337.out 1; have hcz16_0 : w13.cell? ⟨gb338, 0, none⟩ = some (.int .u32 a2_0) := (blk_cell BK338.out 0).trans rfl; have hcz16_1 : w13.cell? ⟨gb338, 1, none⟩ = some (.int .i64 a2_1) := (blk_cell BK338.out 1).trans rfl; have hcz16_2 : w13.cell? ⟨gb338, 2, none⟩ = some (.int .u16 a2_2) := (blk_cell BK338.out 2).trans rfl; have hcz16_3 : w13.cell? ⟨gb338, 3, none⟩ = some (.int .i64 a2_3) := (blk_cell BK338.out 3).trans rfl; have hfz16_0 := blk_frozen BK338.out 0; have hfz16_1 := blk_frozen BK338.out 1; have hfz16_2 := blk_frozen BK338.out 2; have hfz16_3 := blk_frozen BK338.out 3) | ((with_reducible refine gate_callee (f := 23) rfl ?_); refine goesL_ (some 26) rfl rfl Tryd.func23 (by kernel_rfl) rfl #[.agg #[.int .i64 a0_0, .int .i64 a0_1], .slice Ao12 t340.length co12, .agg #[.int .u32 a2_0, .int .i64 a2_1, .int .u16 a2_2, .int .i64 a2_3]] rfl (by (try simp only [List.map_toArray, List.map_cons, List.map_nil]); first | done | rfl | (simp only [List.length_drop, List.length_take]; rfl)) ?_; (with_reducible refine (mail_Send.calls a0_0 a0_1 _ _ t340 a2_0 a2_1 a2_2 a2_3 t346 t347 t348 t351 _ ?side1 ?side2 ?side3 A7.out).mono ?_); (case side1 => exact Laid_below HLD.out (by repeat (first | (with_reducible first | exact HB.out | apply below_alloc | apply pw_below_drewN | apply below_drew1 | refine below_set ?_ GE337.out | refine below_set ?_ GE338.out) | exact HB.out))); (case side2 => repeat (first | exact (Kd.R_reads' HO342.out).2.2 | (with_reducible refine Kd.C_alloc ?_ _) | (with_reducible refine Kd.C_drewN ?_ _) | (with_reducible refine Kd.C_drew ?_))); (case side3 => exact (Kd.R_reads' HO342.out).2.1); rintro e w17 ⟨v349, rfl, ho0, hb⟩; refine ⟨_, rfl, ?_⟩; have n0_ := Aside0.mk (Kd.R_elder' (by (with_reducible repeat (first | apply Kd.R_alloc | apply Kd.R_drewN | apply Kd.R_drew)); exact HO342.out) (Kd.R_base ho0) hb); have n1_ := Aside0.mk (Kd.R_elder' (by (with_reducible repeat (first | apply Kd.R_alloc | apply Kd.R_drewN | apply Kd.R_drew)); exact HO345.out) (Kd.R_base ho0) hb); have n2_ := Aside0.mk (Kd.R_lower (Kd.R_new' (Kd.R_new' ho0 (Kd.R_lt (by (with_reducible repeat (first | apply Kd.R_alloc | apply Kd.R_drewN | apply Kd.R_drew)); exact HO342.out))) (Kd.R_lt (by (with_reducible repeat (first | apply Kd.R_alloc | apply Kd.R_drewN | apply Kd.R_drew)); exact HO345.out))) (below_size (by repeat (first | (with_reducible first | exact HB.out | apply below_alloc | apply pw_below_drewN | apply below_drew1 | refine below_set ?_ GE337.out | refine below_set ?_ GE338.out) | exact HB.out)))); have n3_ := Aside0.mk (blk_below (g := gb337) (o := .cells #[.int .i64 a0_0, .int .i64 a0_1] 38 (0, 0)) (by (with_reducible repeat (first | refine blk_drewN ?_ _ | refine blk_drew ?_ | refine blk_alloc ?_ _)); exact BK337.out) hb); have n4_ := Aside0.mk (blk_below (g := gb338) (o := .cells #[.int .u32 a2_0, .int .i64 a2_1, .int .u16 a2_2, .int .i64 a2_3] 27 (0, 0)) (by (with_reducible repeat (first | refine blk_drewN ?_ _ | refine blk_drew ?_ | refine blk_alloc ?_ _)); exact BK338.out) hb); have n5_ := Aside0.mk (below_step (by repeat (first | (with_reducible first | exact HB.out | apply below_alloc | apply pw_below_drewN | apply below_drew1 | refine below_set ?_ GE337.out | refine below_set ?_ GE338.out) | exact HB.out)) hb); clear HO342; clear HO345; clear BK337; clear BK338; clear HB; have HO342 := n0_; have HO345 := n1_; have HO350 := n2_; have BK337 := n3_; have BK338 := n4_; have HB := n5_; clear n0_ n1_ n2_ n3_ n4_ n5_; (try clear hb); (try clear hb2); (try clear hk); (try clear hi); (try clear ho0)) | ((with_reducible refine gate_dst (N := 9) rfl ?_); refine box_event ?hg (N := 9) ?hd (cs := #[.int .i64 0, .int .i64 0]) (t := 38) ?hr ?_; (case hd => rfl); (case hg => rfl); (case hr => first | (go_simp; done) | (go_simp; rfl)); intro gb352 hg w18 hbox hb; have n0_ := Aside0.mk (Kd.R_below (by (with_reducible repeat (first | apply Kd.R_alloc | apply Kd.R_drewN | apply Kd.R_drew)); exact HO342.out) hb); have n1_ := Aside0.mk (Kd.R_below (by (with_reducible repeat (first | apply Kd.R_alloc | apply Kd.R_drewN | apply Kd.R_drew)); exact HO345.out) hb); have n2_ := Aside0.mk (Kd.R_below (by (with_reducible repeat (first | apply Kd.R_alloc | apply Kd.R_drewN | apply Kd.R_drew)); exact HO350.out) hb); have n3_ := Aside0.mk (blk_below (g := gb337) (o := .cells #[.int .i64 a0_0, .int .i64 a0_1] 38 (0, 0)) (by (with_reducible repeat (first | refine blk_drewN ?_ _ | refine blk_drew ?_ | refine blk_alloc ?_ _)); exact BK337.out) hb); have n4_ := Aside0.mk (blk_below (g := gb338) (o := .cells #[.int .u32 a2_0, .int .i64 a2_1, .int .u16 a2_2, .int .i64 a2_3] 27 (0, 0)) (by (with_reducible repeat (first | refine blk_drewN ?_ _ | refine blk_drew ?_ | refine blk_alloc ?_ _)); exact BK338.out) hb); have n5_ := Aside0.mk (below_step (by repeat (first | (with_reducible first | exact HB.out | apply below_alloc | apply pw_below_drewN | apply below_drew1 | refine below_set ?_ GE337.out | refine below_set ?_ GE338.out) | exact HB.out)) hb); have n6_ := Aside0.mk (hbox); have n7_ := Aside0.mk ((by rw [hg]; exact (below_size (by repeat (first | (with_reducible first | exact HB.out | apply below_alloc | apply pw_below_drewN | apply below_drew1 | refine below_set ?_ GE337.out | refine below_set ?_ GE338.out) | exact HB.out))) : w.heap.size ≤ gb352)); have n8_ := Aside0.mk ((by rw [hg]; exact (below_size (by repeat (first | (with_reducible first | exact HB.out | apply below_alloc | apply pw_below_drewN | apply below_drew1 | refine below_set ?_ GE337.out | refine below_set ?_ GE338.out) | exact HB.out))) : w.heap.size ≤ gb352)); have n9_ := Aside0.mk ((by rw [hg]; exact Nat.ne_of_lt (blk_lt (g := gb337) (o := .cells #[.int .i64 a0_0, .int .i64 a0_1] 38 (0, 0)) (by (with_reducible repeat (first | refine blk_drewN ?_ _ | refine blk_drew ?_ | refine blk_alloc ?_ _)); exact BK337.out)) : gb337 ≠ gb352)); have n10_ := Aside0.mk ((by rw [hg]; exact Nat.ne_of_gt (blk_lt (g := gb337) (o := .cells #[.int .i64 a0_0, .int .i64 a0_1] 38 (0, 0)) (by (with_reducible repeat (first | refine blk_drewN ?_ _ | refine blk_drew ?_ | refine blk_alloc ?_ _)); exact BK337.out)) : gb352 ≠ gb337)); have n11_ := Aside0.mk ((by rw [hg]; exact Nat.ne_of_lt (blk_lt (g := gb338) (o := .cells #[.int .u32 a2_0, .int .i64 a2_1, .int .u16 a2_2, .int .i64 a2_3] 27 (0, 0)) (by (with_reducible repeat (first | refine blk_drewN ?_ _ | refine blk_drew ?_ | refine blk_alloc ?_ _)); exact BK338.out)) : gb338 ≠ gb352)); have n12_ := Aside0.mk ((by rw [hg]; exact Nat.ne_of_gt (blk_lt (g := gb338) (o := .cells #[.int .u32 a2_0, .int .i64 a2_1, .int .u16 a2_2, .int .i64 a2_3] 27 (0, 0)) (by (with_reducible repeat (first | refine blk_drewN ?_ _ | refine blk_drew ?_ | refine blk_alloc ?_ _)); exact BK338.out)) : gb352 ≠ gb338)); clear HO342; clear HO345; clear HO350; clear BK337; clear BK338; clear HB; have HO342 := n0_; have HO345 := n1_; have HO350 := n2_; have BK337 := n3_; have BK338 := n4_; have HB := n5_; have BK352 := n6_; have GW352 := n7_; have GE352 := n8_; have NB337_352 := n9_; have NB352_337 := n10_; have NB338_352 := n11_; have NB352_338 := n12_; clear n0_ n1_ n2_ n3_ n4_ n5_ n6_ n7_ n8_ n9_ n10_ n11_ n12_; clear hb hbox hg; have hnb19 := NB352_337.out; have hnc19 := NB337_352.out; have hnb20 := NB352_338.out; have hnc20 := NB338_352.out; have hcz21_0 : w18.cell? ⟨gb352, 0, none⟩ = some (.int .i64 0) := (blk_cell BK352.out 0).trans rfl; have hcz21_1 : w18.cell? ⟨gb352, 1, none⟩ = some (.int .i64 0) := (blk_cell BK352.out 1).trans rfl; have hfz21_0 := blk_frozen BK352.out 0; have hfz21_1 := blk_frozen BK352.out 1))
  go_loopg [12] k (fun kq v12 w' => ∃ (x10_1 : List (S25)) (x12_1 : Int), v12 = .int .i64 x12_1 ∧ Aside0 (bazaarlaw14_MailOwn.l0 kq t340 t339 t343 x10_1 x12_1 a0_0 a0_1 a2_0 a2_1 a2_2 a2_3 = some r) ∧ Aside0 (kq ≤ k) ∧ Aside0 (Kd.R k25 25 w' w.heap.size (fun k_ => some k_ ≠ (v344 : Value).ownBlock ∧ some k_ ≠ (v349 : Value).ownBlock) (.slice Ao12 t340.length co12) t340) ∧ Aside0 (Kd.R k25 25 w' w.heap.size (fun k_ => some k_ ≠ ((.slice Ao12 t340.length co12) : Value).ownBlock ∧ some k_ ≠ (v349 : Value).ownBlock) v344 t343) ∧ Aside0 (Kd.R k25 25 w' w.heap.size (fun k_ => some k_ ≠ ((.slice Ao12 t340.length co12) : Value).ownBlock ∧ some k_ ≠ (v344 : Value).ownBlock) v349 x10_1) ∧ Aside0 (w'.heap[gb337]? = some (.cells #[.int .i64 a0_0, .int .i64 a0_1] 38 (0, 0))) ∧ Aside0 (w'.heap[gb338]? = some (.cells #[.int .u32 a2_0, .int .i64 a2_1, .int .u16 a2_2, .int .i64 a2_3] 27 (0, 0))) ∧ Aside0 (w'.heap[gb352]? = some (.cells #[.int .i64 t346, .int .i64 t347] 38 (0, 0))) ∧ Aside0 (Below w.heap.size w w'))
  case atStart => exact ⟨(t348), (0), (by first | rfl | (simp; done) | (simp [*]; done)), H', ⟨Nat.le_refl _⟩, ⟨by (with_reducible repeat (first | apply Kd.R_alloc | apply Kd.R_drewN | apply Kd.R_drew)); exact Kd.R_mono (Kd.R_far (p := ⟨gb352, 1, none⟩) (Kd.R_far (p := ⟨gb352, 0, none⟩) (Kd.R_types HO342.out BK352.out (by decide)) (fun _ hk => hk.2) (.int .i64 t346)) (fun _ hk => hk.2) (.int .i64 t347)) (fun _ hk => ⟨hk.1.1.2, hk.1.2⟩)⟩, ⟨by (with_reducible repeat (first | apply Kd.R_alloc | apply Kd.R_drewN | apply Kd.R_drew)); exact Kd.R_mono (Kd.R_far (p := ⟨gb352, 1, none⟩) (Kd.R_far (p := ⟨gb352, 0, none⟩) (Kd.R_types HO345.out BK352.out (by decide)) (fun _ hk => hk.2) (.int .i64 t346)) (fun _ hk => hk.2) (.int .i64 t347)) (fun _ hk => ⟨hk.1.1.2, hk.1.2⟩)⟩, ⟨by (with_reducible repeat (first | apply Kd.R_alloc | apply Kd.R_drewN | apply Kd.R_drew)); exact Kd.R_mono (Kd.R_far (p := ⟨gb352, 1, none⟩) (Kd.R_far (p := ⟨gb352, 0, none⟩) (Kd.R_types HO350.out BK352.out (by decide)) (fun _ hk => hk.2) (.int .i64 t346)) (fun _ hk => hk.2) (.int .i64 t347)) (fun _ hk => ⟨hk.1.1.2, hk.1.2⟩)⟩, ⟨by (with_reducible repeat (first | refine blk_drewN ?_ _ | refine blk_drew ?_ | refine blk_alloc ?_ _)); refine blk_far ?_ NB337_352.out _; (with_reducible repeat (first | refine blk_drewN ?_ _ | refine blk_drew ?_ | refine blk_alloc ?_ _)); refine blk_far ?_ NB337_352.out _; (with_reducible repeat (first | refine blk_drewN ?_ _ | refine blk_drew ?_ | refine blk_alloc ?_ _)); exact BK337.out⟩, ⟨by (with_reducible repeat (first | refine blk_drewN ?_ _ | refine blk_drew ?_ | refine blk_alloc ?_ _)); refine blk_far ?_ NB338_352.out _; (with_reducible repeat (first | refine blk_drewN ?_ _ | refine blk_drew ?_ | refine blk_alloc ?_ _)); refine blk_far ?_ NB338_352.out _; (with_reducible repeat (first | refine blk_drewN ?_ _ | refine blk_drew ?_ | refine blk_alloc ?_ _)); exact BK338.out⟩, ⟨by (with_reducible repeat (first | refine blk_drewN ?_ _ | refine blk_drew ?_ | refine blk_alloc ?_ _)); refine blk_put (cs := #[.int .i64 t346, .int .i64 0]) ?_ 1 _ rfl; (with_reducible repeat (first | refine blk_drewN ?_ _ | refine blk_drew ?_ | refine blk_alloc ?_ _)); refine blk_put (cs := #[.int .i64 0, .int .i64 0]) ?_ 0 _ rfl; (with_reducible repeat (first | refine blk_drewN ?_ _ | refine blk_drew ?_ | refine blk_alloc ?_ _)); exact BK352.out⟩, ⟨by repeat (first | (with_reducible first | exact HB.out | apply below_alloc | apply pw_below_drewN | apply below_drew1 | refine below_set ?_ GE337.out | refine below_set ?_ GE338.out | refine below_set ?_ GE352.out) | exact HB.out)⟩⟩
  case round =>
    clear H'
    try clear c1
    try clear c2
    try clear p2
    try clear c6
    try clear c14
    try clear c15
    try clear c19
    try clear c20
    try clear hcz15_0
    try clear hcz15_1
    try clear hcz16_0
    try clear hcz16_1
    try clear hcz16_2
    try clear hcz16_3
    try clear hcz21_0
    try clear hcz21_1
    try clear hfz15_0
    try clear hfz15_1
    try clear hfz16_0
    try clear hfz16_1
    try clear hfz16_2
    try clear hfz16_3
    try clear hfz21_0
    try clear hfz21_1
    obtain ⟨x10_1, x12_1, rfl, HA, HK1, HO_1, HO_8, HO_10, BK337, BK338, BK352, HB⟩ := hrel
    cases gk with
    | zero => exact absurd HA.out (by simp [bazaarlaw14_MailOwn.l0])
    | succ k1 =>
      have H := HA.out
      clear HA
      simp only [bazaarlaw14_MailOwn.l0] at H
      by_cases c22 : x12_1 < (x10_1.length : Int)
      · rw [if_pos c22] at H
        have c22b0 : decide (x12_1 < (x10_1.length : Int)) = true := decide_eq_true c22
        clear c22
        by_cases c23 : 0 ≤ x12_1
        · rw [if_pos c23] at H
          have c23b0 : decide (0 ≤ x12_1) = true := decide_eq_true c23
          clear c23
          obtain ⟨y353, hy353⟩ : ∃ y_ : List (S25), y_ = (x10_1.set (x12_1 : Int).toNat (⟨(rd_T25 x10_1 x12_1).f0, (-1)⟩ : S25)) := ⟨_, rfl⟩
          replace H : (bazaarlaw14_MailOwn.l0 k1 t340 t339 t343 y353 (wrap64 (x12_1 + 1)) a0_0 a0_1 a2_0 a2_1 a2_2 a2_3) = some r := by first | (rw [hy353]; with_reducible exact H) | (have H2_ := (Option.bind_some _ _).symm.trans H; rw [hy353]; with_reducible exact H2_) | (have H2_ := (Option.bind_some _ _).symm.trans H; with_reducible exact H2_) | with_reducible exact H | (rw [hy353]; exact H) | exact H
          have Ny353 := Aside0.mk hy353
          clear hy353
          have H' := Aside0.mk H
          clear H
          obtain ⟨Ao25, co25, eo25⟩ := Kd.R_slice HO_10.out
          subst eo25
          have p24 : 0 ≤ (x12_1 : Int) := of_decide_eq_true (by first | (with_reducible assumption) | assumption)
          have q24 : (x12_1 : Int) < ((x10_1.length : Int) : Int) := of_decide_eq_true (by first | (with_reducible assumption) | assumption)
          obtain ⟨go24, co24, eo24, gb24, gl24, cl24, HG24⟩ := Kd.R_form HO_10.out (by omega)
          (first | cases eo24 | (injection eo24 with ea_ en_ ec_; (first | subst ea_ | (injection ea_ with ea_; subst ea_)); subst ec_; clear en_))
          have GB24 := Aside0.mk gb24
          have GG24 := Aside0.mk HG24
          clear gb24 gl24 HG24
          obtain ⟨ce24, hcl24, hM24, hcc24, hfr24⟩ := Kd.R_elem HO_10.out z25 (x12_1 : Int) p24 q24
          obtain rfl := k25_openM hM24
          have hx24_0 : wr.cell? ⟨go24, (x12_1 : Int).toNat * 2, none⟩ = some (.int .u16 ((rd_T25 x10_1 x12_1).f0)) := hcc24 0 _ rfl
          have hx24_1 : wr.cell? ⟨go24, (x12_1 : Int).toNat * 2 + 1, none⟩ = some (.int .i64 ((rd_T25 x10_1 x12_1).f1)) := hcc24 1 _ rfl
          have hf24_0 : wr.frozen? ⟨go24, (x12_1 : Int).toNat * 2, none⟩ = false := hfr24 0
          have hf24_1 : wr.frozen? ⟨go24, (x12_1 : Int).toNat * 2 + 1, none⟩ = false := hfr24 1
          clear hcl24 hcc24 hfr24 hM24
          replace p24 := eq_true p24
          replace q24 := eq_true q24
          have HX26 := Aside0.mk (show Kd.R k25 25 wr w.heap.size (fun k_ => some k_ ≠ (.slice Ao12 t340.length co12 : Value).ownBlock ∧ some k_ ≠ (v344 : Value).ownBlock) (.slice (some ⟨go24, 0, none⟩) x10_1.length co25) x10_1 from (by (with_reducible repeat (first | apply Kd.R_alloc | apply Kd.R_drewN | apply Kd.R_drew)); exact HO_10.out))
          obtain ⟨ce26, hcl26, hM26, hcc26, hfr26⟩ := Kd.R_elem HX26.out z25 (x12_1 : Int) (of_decide_eq_true (by first | (with_reducible assumption) | assumption)) (by have h_ : (x12_1 : Int) < ((x10_1.length : Int) : Int) := of_decide_eq_true (by first | (with_reducible assumption) | assumption); first | exact h_ | (have e_ := (Kd.R_reads' HO_10.out).1; omega) | simpa using h_)
          obtain rfl := k25_openM hM26
          have HP26 := Kd.R_seg HX26.out (x12_1 : Int) (of_decide_eq_true (by first | (with_reducible assumption) | assumption)) (by have h_ : (x12_1 : Int) < ((x10_1.length : Int) : Int) := of_decide_eq_true (by first | (with_reducible assumption) | assumption); first | exact h_ | (have e_ := (Kd.R_reads' HO_10.out).1; omega) | simpa using h_) (seg := [.int .i64 (-1)]) (j := 1) hcl26 hcc26 (show 2 ≤ 2 from by decide) (x' := (⟨(rd_T25 x10_1 x12_1).f0, (-1)⟩ : S25)) (k25_mkM _ _ _ (⟨(rd_T25 x10_1 x12_1).f0, (-1)⟩ : S25) ) (fun _ hk => hk)
          have hx26_1 := hcc26 1 _ rfl
          (try simp only [show (k25).sz = 2 from rfl, Nat.mul_one, Nat.add_zero] at hx26_1)
          have hf26_1 := hfr26 1
          (try simp only [show (k25).sz = 2 from rfl, Nat.mul_one, Nat.add_zero] at hf26_1)
          clear hcl26 hcc26 hfr26 hM26
          go_wp2_with (first | ((with_reducible refine gate_store (t := 2) (p := 39) rfl ?_); refine store_event (t := 2) (p := 39) (v := ?vo_w27) (w1 := (wr.setCell ⟨go24, (x12_1 : Int).toNat * 2 + 1, none⟩ (.int .i64 (-1)))) ?hg ?ho ?hn ?hr ?_; (case ho => rfl); (case hg => rfl); (case hn => rfl); (case hr => first | (go_simp; done) | (go_simp; rfl)); intro w27 hw; have hg : wr.grownBy w27 (some go24) := (by rw [hw]; exact HP26.2); have hp_ : Kd.R k25 25 w27 w.heap.size (fun k_ => some k_ ≠ (.slice Ao12 t340.length co12 : Value).ownBlock ∧ some k_ ≠ (v344 : Value).ownBlock) (.slice (some ⟨go24, 0, none⟩) x10_1.length co25) y353 := (by rw [hw, Ny353.out]; exact HP26.1); clear HP26; have n0_ := Aside0.mk (Kd.R_after (v := (.slice (some ⟨go24, 0, none⟩) x10_1.length co25)) (v1 := (.slice (some ⟨go24, 0, none⟩) x10_1.length co25)) (ok := (fun k_ => some k_ ≠ (v344 : Value).ownBlock)) (by (with_reducible repeat (first | apply Kd.R_alloc | apply Kd.R_drewN | apply Kd.R_drew)); exact HO_1.out) hg (.inl rfl)); have n1_ := Aside0.mk (Kd.R_after (v := (.slice (some ⟨go24, 0, none⟩) x10_1.length co25)) (v1 := (.slice (some ⟨go24, 0, none⟩) x10_1.length co25)) (ok := (fun k_ => some k_ ≠ (.slice Ao12 t340.length co12 : Value).ownBlock)) (by (with_reducible repeat (first | apply Kd.R_alloc | apply Kd.R_drewN | apply Kd.R_drew)); exact HO_8.out) hg (.inl rfl)); have n2_ := Aside0.mk (hp_); have n3_ := Aside0.mk (blk_grown (g := gb337) (o := .cells #[.int .i64 a0_0, .int .i64 a0_1] 38 (0, 0)) (by (with_reducible repeat (first | refine blk_drewN ?_ _ | refine blk_drew ?_ | refine blk_alloc ?_ _)); exact BK337.out) hg (Kd.R_ne HO_10.out BK337.out (by decide))); have n4_ := Aside0.mk (blk_grown (g := gb338) (o := .cells #[.int .u32 a2_0, .int .i64 a2_1, .int .u16 a2_2, .int .i64 a2_3] 27 (0, 0)) (by (with_reducible repeat (first | refine blk_drewN ?_ _ | refine blk_drew ?_ | refine blk_alloc ?_ _)); exact BK338.out) hg (Kd.R_ne HO_10.out BK338.out (by decide))); have n5_ := Aside0.mk (blk_grown (g := gb352) (o := .cells #[.int .i64 t346, .int .i64 t347] 38 (0, 0)) (by (with_reducible repeat (first | refine blk_drewN ?_ _ | refine blk_drew ?_ | refine blk_alloc ?_ _)); exact BK352.out) hg (Kd.R_ne HO_10.out BK352.out (by decide))); have n6_ := Aside0.mk ((by rw [hw]; exact below_set (HB.out) GB24.out : Below w.heap.size w w27)); clear HO_1; clear HO_8; clear HO_10; clear BK337; clear BK338; clear BK352; clear HB; have HO_1 := n0_; have HO_8 := n1_; have HO_10 := n2_; have BK337 := n3_; have BK338 := n4_; have BK352 := n5_; have HB := n6_; clear n0_ n1_ n2_ n3_ n4_ n5_ n6_; clear hg hw hp_))
          go_roundg k1
          case measure => have := HK1.out; omega
          case rel => exact ⟨(y353), (wrap64 (x12_1 + 1)), (by first | rfl | (simp; done) | (simp [*]; done)), H', ⟨by have := HK1.out; omega⟩, ⟨by (with_reducible repeat (first | apply Kd.R_alloc | apply Kd.R_drewN | apply Kd.R_drew)); exact HO_1.out⟩, ⟨by (with_reducible repeat (first | apply Kd.R_alloc | apply Kd.R_drewN | apply Kd.R_drew)); exact HO_8.out⟩, ⟨by (with_reducible repeat (first | apply Kd.R_alloc | apply Kd.R_drewN | apply Kd.R_drew)); exact HO_10.out⟩, ⟨by (with_reducible repeat (first | refine blk_drewN ?_ _ | refine blk_drew ?_ | refine blk_alloc ?_ _)); exact BK337.out⟩, ⟨by (with_reducible repeat (first | refine blk_drewN ?_ _ | refine blk_drew ?_ | refine blk_alloc ?_ _)); exact BK338.out⟩, ⟨by (with_reducible repeat (first | refine blk_drewN ?_ _ | refine blk_drew ?_ | refine blk_alloc ?_ _)); exact BK352.out⟩, ⟨by repeat (first | (with_reducible first | exact HB.out | apply below_alloc | apply pw_below_drewN | apply below_drew1 | refine below_set ?_ GE337.out | refine below_set ?_ GE338.out | refine below_set ?_ GE352.out) | exact HB.out)⟩⟩
        · rw [if_neg c23] at H
          exact absurd H (by simp)
      · rw [if_neg c22] at H
        have c22b0 : decide (x12_1 < (x10_1.length : Int)) = false := decide_eq_false c22
        clear c22
        replace H := Option.bind_eq_some_iff.mp H
        obtain ⟨⟨t354, t355, t356, t359⟩, A280, H⟩ := H
        replace H : (bazaarlaw14_MailOwn.l1 k1 t340 t339 t343 t356 0) = some r := H
        have A28 := Aside0.mk A280
        clear A280
        have H' := Aside0.mk H
        clear H
        obtain ⟨Ao29, co29, eo29⟩ := Kd.R_slice HO_10.out
        subst eo29
        have hnb30 := NB337_338.out
        have hnc30 := NB338_337.out
        have hnb31 := NB337_352.out
        have hnc31 := NB352_337.out
        have hcz32_0 : wr.cell? ⟨gb337, 0, none⟩ = some (.int .i64 a0_0) := (blk_cell BK337.out 0).trans rfl
        have hcz32_1 : wr.cell? ⟨gb337, 1, none⟩ = some (.int .i64 a0_1) := (blk_cell BK337.out 1).trans rfl
        have hfz32_0 := blk_frozen BK337.out 0
        have hfz32_1 := blk_frozen BK337.out 1
        have hnb33 := NB338_352.out
        have hnc33 := NB352_338.out
        have hcz34_0 : wr.cell? ⟨gb338, 0, none⟩ = some (.int .u32 a2_0) := (blk_cell BK338.out 0).trans rfl
        have hcz34_1 : wr.cell? ⟨gb338, 1, none⟩ = some (.int .i64 a2_1) := (blk_cell BK338.out 1).trans rfl
        have hcz34_2 : wr.cell? ⟨gb338, 2, none⟩ = some (.int .u16 a2_2) := (blk_cell BK338.out 2).trans rfl
        have hcz34_3 : wr.cell? ⟨gb338, 3, none⟩ = some (.int .i64 a2_3) := (blk_cell BK338.out 3).trans rfl
        have hfz34_0 := blk_frozen BK338.out 0
        have hfz34_1 := blk_frozen BK338.out 1
        have hfz34_2 := blk_frozen BK338.out 2
        have hfz34_3 := blk_frozen BK338.out 3
        go_wp2_with (first | ((with_reducible refine gate_callee (f := 25) rfl ?_); refine goesL_ (some 44) rfl rfl Tryd.func25 (by kernel_rfl) rfl #[.agg #[.int .i64 a0_0, .int .i64 a0_1], .slice Ao12 t340.length co12, .agg #[.int .u32 a2_0, .int .i64 a2_1, .int .u16 a2_2, .int .i64 a2_3]] rfl (by (try simp only [List.map_toArray, List.map_cons, List.map_nil]); first | done | rfl | (simp only [List.length_drop, List.length_take]; rfl)) ?_; (with_reducible refine (mail_Claim.calls a0_0 a0_1 _ _ t340 a2_0 a2_1 a2_2 a2_3 t354 t355 t356 t359 _ ?side1 ?side2 ?side3 A28.out).mono ?_); (case side1 => exact Laid_below HLD.out (by repeat (first | (with_reducible first | exact HB.out | apply below_alloc | apply pw_below_drewN | apply below_drew1 | refine below_set ?_ GE337.out | refine below_set ?_ GE338.out | refine below_set ?_ GE352.out) | exact HB.out))); (case side2 => repeat (first | exact (Kd.R_reads' HO_1.out).2.2 | (with_reducible refine Kd.C_alloc ?_ _) | (with_reducible refine Kd.C_drewN ?_ _) | (with_reducible refine Kd.C_drew ?_))); (case side3 => exact (Kd.R_reads' HO_1.out).2.1); rintro e w35 ⟨v357, rfl, ho0, hb⟩; refine ⟨_, rfl, ?_⟩; have n0_ := Aside0.mk (Kd.R_elder' (by (with_reducible repeat (first | apply Kd.R_alloc | apply Kd.R_drewN | apply Kd.R_drew)); exact HO_1.out) (Kd.R_base ho0) hb); have n1_ := Aside0.mk (Kd.R_elder' (by (with_reducible repeat (first | apply Kd.R_alloc | apply Kd.R_drewN | apply Kd.R_drew)); exact HO_8.out) (Kd.R_base ho0) hb); have n2_ := Aside0.mk (Kd.R_elder' (by (with_reducible repeat (first | apply Kd.R_alloc | apply Kd.R_drewN | apply Kd.R_drew)); exact HO_10.out) (Kd.R_base ho0) hb); have n3_ := Aside0.mk (Kd.R_lower (Kd.R_new' (Kd.R_new' (Kd.R_new' ho0 (Kd.R_lt (by (with_reducible repeat (first | apply Kd.R_alloc | apply Kd.R_drewN | apply Kd.R_drew)); exact HO_1.out))) (Kd.R_lt (by (with_reducible repeat (first | apply Kd.R_alloc | apply Kd.R_drewN | apply Kd.R_drew)); exact HO_8.out))) (Kd.R_lt (by (with_reducible repeat (first | apply Kd.R_alloc | apply Kd.R_drewN | apply Kd.R_drew)); exact HO_10.out))) (below_size (by repeat (first | (with_reducible first | exact HB.out | apply below_alloc | apply pw_below_drewN | apply below_drew1 | refine below_set ?_ GE337.out | refine below_set ?_ GE338.out | refine below_set ?_ GE352.out) | exact HB.out)))); have n4_ := Aside0.mk (blk_below (g := gb337) (o := .cells #[.int .i64 a0_0, .int .i64 a0_1] 38 (0, 0)) (by (with_reducible repeat (first | refine blk_drewN ?_ _ | refine blk_drew ?_ | refine blk_alloc ?_ _)); exact BK337.out) hb); have n5_ := Aside0.mk (blk_below (g := gb338) (o := .cells #[.int .u32 a2_0, .int .i64 a2_1, .int .u16 a2_2, .int .i64 a2_3] 27 (0, 0)) (by (with_reducible repeat (first | refine blk_drewN ?_ _ | refine blk_drew ?_ | refine blk_alloc ?_ _)); exact BK338.out) hb); have n6_ := Aside0.mk (blk_below (g := gb352) (o := .cells #[.int .i64 t346, .int .i64 t347] 38 (0, 0)) (by (with_reducible repeat (first | refine blk_drewN ?_ _ | refine blk_drew ?_ | refine blk_alloc ?_ _)); exact BK352.out) hb); have n7_ := Aside0.mk (below_step (by repeat (first | (with_reducible first | exact HB.out | apply below_alloc | apply pw_below_drewN | apply below_drew1 | refine below_set ?_ GE337.out | refine below_set ?_ GE338.out | refine below_set ?_ GE352.out) | exact HB.out)) hb); clear HO_1; clear HO_8; clear HO_10; clear BK337; clear BK338; clear BK352; clear HB; have HO_1 := n0_; have HO_8 := n1_; have HO_10 := n2_; have HO358 := n3_; have BK337 := n4_; have BK338 := n5_; have BK352 := n6_; have HB := n7_; clear n0_ n1_ n2_ n3_ n4_ n5_ n6_ n7_; (try clear hb); (try clear hb2); (try clear hk); (try clear hi); (try clear ho0)) | ((with_reducible refine gate_dst (N := 13) rfl ?_); refine box_event ?hg (N := 13) ?hd (cs := #[.int .i64 0, .int .i64 0]) (t := 38) ?hr ?_; (case hd => rfl); (case hg => rfl); (case hr => first | (go_simp; done) | (go_simp; rfl)); intro gb360 hg w36 hbox hb; have n0_ := Aside0.mk (Kd.R_below (by (with_reducible repeat (first | apply Kd.R_alloc | apply Kd.R_drewN | apply Kd.R_drew)); exact HO_1.out) hb); have n1_ := Aside0.mk (Kd.R_below (by (with_reducible repeat (first | apply Kd.R_alloc | apply Kd.R_drewN | apply Kd.R_drew)); exact HO_8.out) hb); have n2_ := Aside0.mk (Kd.R_below (by (with_reducible repeat (first | apply Kd.R_alloc | apply Kd.R_drewN | apply Kd.R_drew)); exact HO_10.out) hb); have n3_ := Aside0.mk (Kd.R_below (by (with_reducible repeat (first | apply Kd.R_alloc | apply Kd.R_drewN | apply Kd.R_drew)); exact HO358.out) hb); have n4_ := Aside0.mk (blk_below (g := gb337) (o := .cells #[.int .i64 a0_0, .int .i64 a0_1] 38 (0, 0)) (by (with_reducible repeat (first | refine blk_drewN ?_ _ | refine blk_drew ?_ | refine blk_alloc ?_ _)); exact BK337.out) hb); have n5_ := Aside0.mk (blk_below (g := gb338) (o := .cells #[.int .u32 a2_0, .int .i64 a2_1, .int .u16 a2_2, .int .i64 a2_3] 27 (0, 0)) (by (with_reducible repeat (first | refine blk_drewN ?_ _ | refine blk_drew ?_ | refine blk_alloc ?_ _)); exact BK338.out) hb); have n6_ := Aside0.mk (blk_below (g := gb352) (o := .cells #[.int .i64 t346, .int .i64 t347] 38 (0, 0)) (by (with_reducible repeat (first | refine blk_drewN ?_ _ | refine blk_drew ?_ | refine blk_alloc ?_ _)); exact BK352.out) hb); have n7_ := Aside0.mk (below_step (by repeat (first | (with_reducible first | exact HB.out | apply below_alloc | apply pw_below_drewN | apply below_drew1 | refine below_set ?_ GE337.out | refine below_set ?_ GE338.out | refine below_set ?_ GE352.out) | exact HB.out)) hb); have n8_ := Aside0.mk (hbox); have n9_ := Aside0.mk ((by rw [hg]; exact (below_size (by repeat (first | (with_reducible first | exact HB.out | apply below_alloc | apply pw_below_drewN | apply below_drew1 | refine below_set ?_ GE337.out | refine below_set ?_ GE338.out | refine below_set ?_ GE352.out) | exact HB.out))) : w.heap.size ≤ gb360)); have n10_ := Aside0.mk ((by rw [hg]; exact (below_size (by repeat (first | (with_reducible first | exact HB.out | apply below_alloc | apply pw_below_drewN | apply below_drew1 | refine below_set ?_ GE337.out | refine below_set ?_ GE338.out | refine below_set ?_ GE352.out) | exact HB.out))) : w.heap.size ≤ gb360)); have n11_ := Aside0.mk ((by rw [hg]; exact Nat.ne_of_lt (blk_lt (g := gb337) (o := .cells #[.int .i64 a0_0, .int .i64 a0_1] 38 (0, 0)) (by (with_reducible repeat (first | refine blk_drewN ?_ _ | refine blk_drew ?_ | refine blk_alloc ?_ _)); exact BK337.out)) : gb337 ≠ gb360)); have n12_ := Aside0.mk ((by rw [hg]; exact Nat.ne_of_gt (blk_lt (g := gb337) (o := .cells #[.int .i64 a0_0, .int .i64 a0_1] 38 (0, 0)) (by (with_reducible repeat (first | refine blk_drewN ?_ _ | refine blk_drew ?_ | refine blk_alloc ?_ _)); exact BK337.out)) : gb360 ≠ gb337)); have n13_ := Aside0.mk ((by rw [hg]; exact Nat.ne_of_lt (blk_lt (g := gb338) (o := .cells #[.int .u32 a2_0, .int .i64 a2_1, .int .u16 a2_2, .int .i64 a2_3] 27 (0, 0)) (by (with_reducible repeat (first | refine blk_drewN ?_ _ | refine blk_drew ?_ | refine blk_alloc ?_ _)); exact BK338.out)) : gb338 ≠ gb360)); have n14_ := Aside0.mk ((by rw [hg]; exact Nat.ne_of_gt (blk_lt (g := gb338) (o := .cells #[.int .u32 a2_0, .int .i64 a2_1, .int .u16 a2_2, .int .i64 a2_3] 27 (0, 0)) (by (with_reducible repeat (first | refine blk_drewN ?_ _ | refine blk_drew ?_ | refine blk_alloc ?_ _)); exact BK338.out)) : gb360 ≠ gb338)); have n15_ := Aside0.mk ((by rw [hg]; exact Nat.ne_of_lt (blk_lt (g := gb352) (o := .cells #[.int .i64 t346, .int .i64 t347] 38 (0, 0)) (by (with_reducible repeat (first | refine blk_drewN ?_ _ | refine blk_drew ?_ | refine blk_alloc ?_ _)); exact BK352.out)) : gb352 ≠ gb360)); have n16_ := Aside0.mk ((by rw [hg]; exact Nat.ne_of_gt (blk_lt (g := gb352) (o := .cells #[.int .i64 t346, .int .i64 t347] 38 (0, 0)) (by (with_reducible repeat (first | refine blk_drewN ?_ _ | refine blk_drew ?_ | refine blk_alloc ?_ _)); exact BK352.out)) : gb360 ≠ gb352)); clear HO_1; clear HO_8; clear HO_10; clear HO358; clear BK337; clear BK338; clear BK352; clear HB; have HO_1 := n0_; have HO_8 := n1_; have HO_10 := n2_; have HO358 := n3_; have BK337 := n4_; have BK338 := n5_; have BK352 := n6_; have HB := n7_; have BK360 := n8_; have GW360 := n9_; have GE360 := n10_; have NB337_360 := n11_; have NB360_337 := n12_; have NB338_360 := n13_; have NB360_338 := n14_; have NB352_360 := n15_; have NB360_352 := n16_; clear n0_ n1_ n2_ n3_ n4_ n5_ n6_ n7_ n8_ n9_ n10_ n11_ n12_ n13_ n14_ n15_ n16_; clear hb hbox hg; have hnb37 := NB360_337.out; have hnc37 := NB337_360.out; have hnb38 := NB360_338.out; have hnc38 := NB338_360.out; have hnb39 := NB360_352.out; have hnc39 := NB352_360.out; have hcz40_0 : w36.cell? ⟨gb360, 0, none⟩ = some (.int .i64 0) := (blk_cell BK360.out 0).trans rfl; have hcz40_1 : w36.cell? ⟨gb360, 1, none⟩ = some (.int .i64 0) := (blk_cell BK360.out 1).trans rfl; have hfz40_0 := blk_frozen BK360.out 0; have hfz40_1 := blk_frozen BK360.out 1))
        go_loopg [16] k1 (fun kq v16 w' => ∃ (x14_2 : List (S25)) (x16_2 : Int), v16 = .int .i64 x16_2 ∧ Aside0 (bazaarlaw14_MailOwn.l1 kq t340 t339 t343 x14_2 x16_2 = some r) ∧ Aside0 (kq ≤ k1) ∧ Aside0 (Kd.R k25 25 w' w.heap.size (fun k_ => some k_ ≠ (v344 : Value).ownBlock ∧ some k_ ≠ (v357 : Value).ownBlock) (.slice Ao12 t340.length co12) t340) ∧ Aside0 (Kd.R k25 25 w' w.heap.size (fun k_ => some k_ ≠ ((.slice Ao12 t340.length co12) : Value).ownBlock ∧ some k_ ≠ (v357 : Value).ownBlock) v344 t343) ∧ Aside0 (Kd.R k25 25 w' w.heap.size (fun k_ => some k_ ≠ ((.slice Ao12 t340.length co12) : Value).ownBlock ∧ some k_ ≠ (v344 : Value).ownBlock) v357 x14_2) ∧ Aside0 (w'.heap[gb337]? = some (.cells #[.int .i64 a0_0, .int .i64 a0_1] 38 (0, 0))) ∧ Aside0 (w'.heap[gb338]? = some (.cells #[.int .u32 a2_0, .int .i64 a2_1, .int .u16 a2_2, .int .i64 a2_3] 27 (0, 0))) ∧ Aside0 (w'.heap[gb352]? = some (.cells #[.int .i64 t346, .int .i64 t347] 38 (0, 0))) ∧ Aside0 (w'.heap[gb360]? = some (.cells #[.int .i64 t354, .int .i64 t355] 38 (0, 0))) ∧ Aside0 (Below w.heap.size w w'))
        case atStart => exact ⟨(t356), (0), (by first | rfl | (simp; done) | (simp [*]; done)), H', ⟨Nat.le_refl _⟩, ⟨by (with_reducible repeat (first | apply Kd.R_alloc | apply Kd.R_drewN | apply Kd.R_drew)); exact Kd.R_mono (Kd.R_far (p := ⟨gb360, 1, none⟩) (Kd.R_far (p := ⟨gb360, 0, none⟩) (Kd.R_types HO_1.out BK360.out (by decide)) (fun _ hk => hk.2) (.int .i64 t354)) (fun _ hk => hk.2) (.int .i64 t355)) (fun _ hk => ⟨hk.1.1.1, hk.1.2⟩)⟩, ⟨by (with_reducible repeat (first | apply Kd.R_alloc | apply Kd.R_drewN | apply Kd.R_drew)); exact Kd.R_mono (Kd.R_far (p := ⟨gb360, 1, none⟩) (Kd.R_far (p := ⟨gb360, 0, none⟩) (Kd.R_types HO_8.out BK360.out (by decide)) (fun _ hk => hk.2) (.int .i64 t354)) (fun _ hk => hk.2) (.int .i64 t355)) (fun _ hk => ⟨hk.1.1.1, hk.1.2⟩)⟩, ⟨by (with_reducible repeat (first | apply Kd.R_alloc | apply Kd.R_drewN | apply Kd.R_drew)); exact Kd.R_mono (Kd.R_far (p := ⟨gb360, 1, none⟩) (Kd.R_far (p := ⟨gb360, 0, none⟩) (Kd.R_types HO358.out BK360.out (by decide)) (fun _ hk => hk.2) (.int .i64 t354)) (fun _ hk => hk.2) (.int .i64 t355)) (fun _ hk => ⟨hk.1.1.1.2, hk.1.1.2⟩)⟩, ⟨by (with_reducible repeat (first | refine blk_drewN ?_ _ | refine blk_drew ?_ | refine blk_alloc ?_ _)); refine blk_far ?_ NB337_360.out _; (with_reducible repeat (first | refine blk_drewN ?_ _ | refine blk_drew ?_ | refine blk_alloc ?_ _)); refine blk_far ?_ NB337_360.out _; (with_reducible repeat (first | refine blk_drewN ?_ _ | refine blk_drew ?_ | refine blk_alloc ?_ _)); exact BK337.out⟩, ⟨by (with_reducible repeat (first | refine blk_drewN ?_ _ | refine blk_drew ?_ | refine blk_alloc ?_ _)); refine blk_far ?_ NB338_360.out _; (with_reducible repeat (first | refine blk_drewN ?_ _ | refine blk_drew ?_ | refine blk_alloc ?_ _)); refine blk_far ?_ NB338_360.out _; (with_reducible repeat (first | refine blk_drewN ?_ _ | refine blk_drew ?_ | refine blk_alloc ?_ _)); exact BK338.out⟩, ⟨by (with_reducible repeat (first | refine blk_drewN ?_ _ | refine blk_drew ?_ | refine blk_alloc ?_ _)); refine blk_far ?_ NB352_360.out _; (with_reducible repeat (first | refine blk_drewN ?_ _ | refine blk_drew ?_ | refine blk_alloc ?_ _)); refine blk_far ?_ NB352_360.out _; (with_reducible repeat (first | refine blk_drewN ?_ _ | refine blk_drew ?_ | refine blk_alloc ?_ _)); exact BK352.out⟩, ⟨by (with_reducible repeat (first | refine blk_drewN ?_ _ | refine blk_drew ?_ | refine blk_alloc ?_ _)); refine blk_put (cs := #[.int .i64 t354, .int .i64 0]) ?_ 1 _ rfl; (with_reducible repeat (first | refine blk_drewN ?_ _ | refine blk_drew ?_ | refine blk_alloc ?_ _)); refine blk_put (cs := #[.int .i64 0, .int .i64 0]) ?_ 0 _ rfl; (with_reducible repeat (first | refine blk_drewN ?_ _ | refine blk_drew ?_ | refine blk_alloc ?_ _)); exact BK360.out⟩, ⟨by repeat (first | (with_reducible first | exact HB.out | apply below_alloc | apply pw_below_drewN | apply below_drew1 | refine below_set ?_ GE337.out | refine below_set ?_ GE338.out | refine below_set ?_ GE352.out | refine below_set ?_ GE360.out) | exact HB.out)⟩⟩
        case round =>
          clear H'
          try clear c1
          try clear c2
          try clear p2
          try clear q2
          try clear hx2
          try clear c3
          try clear c6
          try clear p6
          try clear c14
          try clear c15
          try clear c19
          try clear c20
          try clear c22
          try clear c22b0
          try clear c23
          try clear c23b0
          try clear c24
          try clear p24
          try clear q24
          try clear hx24
          try clear hf24
          try clear c25
          try clear c26
          try clear hx26
          try clear hf26
          try clear c30
          try clear c31
          try clear c33
          try clear c37
          try clear c38
          try clear c39
          try clear hcz15_0
          try clear hcz15_1
          try clear hcz16_0
          try clear hcz16_1
          try clear hcz16_2
          try clear hcz16_3
          try clear hcz21_0
          try clear hcz21_1
          try clear hcz32_0
          try clear hcz32_1
          try clear hcz34_0
          try clear hcz34_1
          try clear hcz34_2
          try clear hcz34_3
          try clear hcz40_0
          try clear hcz40_1
          try clear hfz15_0
          try clear hfz15_1
          try clear hfz16_0
          try clear hfz16_1
          try clear hfz16_2
          try clear hfz16_3
          try clear hfz21_0
          try clear hfz21_1
          try clear hfz32_0
          try clear hfz32_1
          try clear hfz34_0
          try clear hfz34_1
          try clear hfz34_2
          try clear hfz34_3
          try clear hfz40_0
          try clear hfz40_1
          try clear hx24_0
          try clear hx24_1
          try clear hx26_1
          try clear p2
          try clear p24
          try clear q24
          obtain ⟨x14_2, x16_2, rfl, HA, HK2, HO_1, HO_8, HO_14, BK337, BK338, BK352, BK360, HB⟩ := hrel
          cases gk with
          | zero => exact absurd HA.out (by simp [bazaarlaw14_MailOwn.l1])
          | succ k2 =>
            have H := HA.out
            clear HA
            simp only [bazaarlaw14_MailOwn.l1] at H
            by_cases c41 : x16_2 < (x14_2.length : Int)
            · rw [if_pos c41] at H
              have c41b0 : decide (x16_2 < (x14_2.length : Int)) = true := decide_eq_true c41
              clear c41
              by_cases c42 : 0 ≤ x16_2
              · rw [if_pos c42] at H
                have c42b0 : decide (0 ≤ x16_2) = true := decide_eq_true c42
                clear c42
                obtain ⟨y361, hy361⟩ : ∃ y_ : List (S25), y_ = (x14_2.set (x16_2 : Int).toNat (⟨(rd_T25 x14_2 x16_2).f0, (-1)⟩ : S25)) := ⟨_, rfl⟩
                replace H : (bazaarlaw14_MailOwn.l1 k2 t340 t339 t343 y361 (wrap64 (x16_2 + 1))) = some r := by first | (rw [hy361]; with_reducible exact H) | (have H2_ := (Option.bind_some _ _).symm.trans H; rw [hy361]; with_reducible exact H2_) | (have H2_ := (Option.bind_some _ _).symm.trans H; with_reducible exact H2_) | with_reducible exact H | (rw [hy361]; exact H) | exact H
                have Ny361 := Aside0.mk hy361
                clear hy361
                have H' := Aside0.mk H
                clear H
                obtain ⟨Ao44, co44, eo44⟩ := Kd.R_slice HO_14.out
                subst eo44
                have p43 : 0 ≤ (x16_2 : Int) := of_decide_eq_true (by first | (with_reducible assumption) | assumption)
                have q43 : (x16_2 : Int) < ((x14_2.length : Int) : Int) := of_decide_eq_true (by first | (with_reducible assumption) | assumption)
                obtain ⟨go43, co43, eo43, gb43, gl43, cl43, HG43⟩ := Kd.R_form HO_14.out (by omega)
                (first | cases eo43 | (injection eo43 with ea_ en_ ec_; (first | subst ea_ | (injection ea_ with ea_; subst ea_)); subst ec_; clear en_))
                have GB43 := Aside0.mk gb43
                have GG43 := Aside0.mk HG43
                clear gb43 gl43 HG43
                obtain ⟨ce43, hcl43, hM43, hcc43, hfr43⟩ := Kd.R_elem HO_14.out z25 (x16_2 : Int) p43 q43
                obtain rfl := k25_openM hM43
                have hx43_0 : wr.cell? ⟨go43, (x16_2 : Int).toNat * 2, none⟩ = some (.int .u16 ((rd_T25 x14_2 x16_2).f0)) := hcc43 0 _ rfl
                have hx43_1 : wr.cell? ⟨go43, (x16_2 : Int).toNat * 2 + 1, none⟩ = some (.int .i64 ((rd_T25 x14_2 x16_2).f1)) := hcc43 1 _ rfl
                have hf43_0 : wr.frozen? ⟨go43, (x16_2 : Int).toNat * 2, none⟩ = false := hfr43 0
                have hf43_1 : wr.frozen? ⟨go43, (x16_2 : Int).toNat * 2 + 1, none⟩ = false := hfr43 1
                clear hcl43 hcc43 hfr43 hM43
                replace p43 := eq_true p43
                replace q43 := eq_true q43
                have HX45 := Aside0.mk (show Kd.R k25 25 wr w.heap.size (fun k_ => some k_ ≠ (.slice Ao12 t340.length co12 : Value).ownBlock ∧ some k_ ≠ (v344 : Value).ownBlock) (.slice (some ⟨go43, 0, none⟩) x14_2.length co44) x14_2 from (by (with_reducible repeat (first | apply Kd.R_alloc | apply Kd.R_drewN | apply Kd.R_drew)); exact HO_14.out))
                obtain ⟨ce45, hcl45, hM45, hcc45, hfr45⟩ := Kd.R_elem HX45.out z25 (x16_2 : Int) (of_decide_eq_true (by first | (with_reducible assumption) | assumption)) (by have h_ : (x16_2 : Int) < ((x14_2.length : Int) : Int) := of_decide_eq_true (by first | (with_reducible assumption) | assumption); first | exact h_ | (have e_ := (Kd.R_reads' HO_14.out).1; omega) | simpa using h_)
                obtain rfl := k25_openM hM45
                have HP45 := Kd.R_seg HX45.out (x16_2 : Int) (of_decide_eq_true (by first | (with_reducible assumption) | assumption)) (by have h_ : (x16_2 : Int) < ((x14_2.length : Int) : Int) := of_decide_eq_true (by first | (with_reducible assumption) | assumption); first | exact h_ | (have e_ := (Kd.R_reads' HO_14.out).1; omega) | simpa using h_) (seg := [.int .i64 (-1)]) (j := 1) hcl45 hcc45 (show 2 ≤ 2 from by decide) (x' := (⟨(rd_T25 x14_2 x16_2).f0, (-1)⟩ : S25)) (k25_mkM _ _ _ (⟨(rd_T25 x14_2 x16_2).f0, (-1)⟩ : S25) ) (fun _ hk => hk)
                have hx45_1 := hcc45 1 _ rfl
                (try simp only [show (k25).sz = 2 from rfl, Nat.mul_one, Nat.add_zero] at hx45_1)
                have hf45_1 := hfr45 1
                (try simp only [show (k25).sz = 2 from rfl, Nat.mul_one, Nat.add_zero] at hf45_1)
                clear hcl45 hcc45 hfr45 hM45
                go_wp2_with (first | ((with_reducible refine gate_store (t := 2) (p := 57) rfl ?_); refine store_event (t := 2) (p := 57) (v := ?vo_w46) (w1 := (wr.setCell ⟨go43, (x16_2 : Int).toNat * 2 + 1, none⟩ (.int .i64 (-1)))) ?hg ?ho ?hn ?hr ?_; (case ho => rfl); (case hg => rfl); (case hn => rfl); (case hr => first | (go_simp; done) | (go_simp; rfl)); intro w46 hw; have hg : wr.grownBy w46 (some go43) := (by rw [hw]; exact HP45.2); have hp_ : Kd.R k25 25 w46 w.heap.size (fun k_ => some k_ ≠ (.slice Ao12 t340.length co12 : Value).ownBlock ∧ some k_ ≠ (v344 : Value).ownBlock) (.slice (some ⟨go43, 0, none⟩) x14_2.length co44) y361 := (by rw [hw, Ny361.out]; exact HP45.1); clear HP45; have n0_ := Aside0.mk (Kd.R_after (v := (.slice (some ⟨go43, 0, none⟩) x14_2.length co44)) (v1 := (.slice (some ⟨go43, 0, none⟩) x14_2.length co44)) (ok := (fun k_ => some k_ ≠ (v344 : Value).ownBlock)) (by (with_reducible repeat (first | apply Kd.R_alloc | apply Kd.R_drewN | apply Kd.R_drew)); exact HO_1.out) hg (.inl rfl)); have n1_ := Aside0.mk (Kd.R_after (v := (.slice (some ⟨go43, 0, none⟩) x14_2.length co44)) (v1 := (.slice (some ⟨go43, 0, none⟩) x14_2.length co44)) (ok := (fun k_ => some k_ ≠ (.slice Ao12 t340.length co12 : Value).ownBlock)) (by (with_reducible repeat (first | apply Kd.R_alloc | apply Kd.R_drewN | apply Kd.R_drew)); exact HO_8.out) hg (.inl rfl)); have n2_ := Aside0.mk (hp_); have n3_ := Aside0.mk (blk_grown (g := gb337) (o := .cells #[.int .i64 a0_0, .int .i64 a0_1] 38 (0, 0)) (by (with_reducible repeat (first | refine blk_drewN ?_ _ | refine blk_drew ?_ | refine blk_alloc ?_ _)); exact BK337.out) hg (Kd.R_ne HO_14.out BK337.out (by decide))); have n4_ := Aside0.mk (blk_grown (g := gb338) (o := .cells #[.int .u32 a2_0, .int .i64 a2_1, .int .u16 a2_2, .int .i64 a2_3] 27 (0, 0)) (by (with_reducible repeat (first | refine blk_drewN ?_ _ | refine blk_drew ?_ | refine blk_alloc ?_ _)); exact BK338.out) hg (Kd.R_ne HO_14.out BK338.out (by decide))); have n5_ := Aside0.mk (blk_grown (g := gb352) (o := .cells #[.int .i64 t346, .int .i64 t347] 38 (0, 0)) (by (with_reducible repeat (first | refine blk_drewN ?_ _ | refine blk_drew ?_ | refine blk_alloc ?_ _)); exact BK352.out) hg (Kd.R_ne HO_14.out BK352.out (by decide))); have n6_ := Aside0.mk (blk_grown (g := gb360) (o := .cells #[.int .i64 t354, .int .i64 t355] 38 (0, 0)) (by (with_reducible repeat (first | refine blk_drewN ?_ _ | refine blk_drew ?_ | refine blk_alloc ?_ _)); exact BK360.out) hg (Kd.R_ne HO_14.out BK360.out (by decide))); have n7_ := Aside0.mk ((by rw [hw]; exact below_set (HB.out) GB43.out : Below w.heap.size w w46)); clear HO_1; clear HO_8; clear HO_14; clear BK337; clear BK338; clear BK352; clear BK360; clear HB; have HO_1 := n0_; have HO_8 := n1_; have HO_14 := n2_; have BK337 := n3_; have BK338 := n4_; have BK352 := n5_; have BK360 := n6_; have HB := n7_; clear n0_ n1_ n2_ n3_ n4_ n5_ n6_ n7_; clear hg hw hp_))
                go_roundg k2
                case measure => have := HK1.out; have := HK2.out; omega
                case rel => exact ⟨(y361), (wrap64 (x16_2 + 1)), (by first | rfl | (simp; done) | (simp [*]; done)), H', ⟨by have := HK1.out; have := HK2.out; omega⟩, ⟨by (with_reducible repeat (first | apply Kd.R_alloc | apply Kd.R_drewN | apply Kd.R_drew)); exact HO_1.out⟩, ⟨by (with_reducible repeat (first | apply Kd.R_alloc | apply Kd.R_drewN | apply Kd.R_drew)); exact HO_8.out⟩, ⟨by (with_reducible repeat (first | apply Kd.R_alloc | apply Kd.R_drewN | apply Kd.R_drew)); exact HO_14.out⟩, ⟨by (with_reducible repeat (first | refine blk_drewN ?_ _ | refine blk_drew ?_ | refine blk_alloc ?_ _)); exact BK337.out⟩, ⟨by (with_reducible repeat (first | refine blk_drewN ?_ _ | refine blk_drew ?_ | refine blk_alloc ?_ _)); exact BK338.out⟩, ⟨by (with_reducible repeat (first | refine blk_drewN ?_ _ | refine blk_drew ?_ | refine blk_alloc ?_ _)); exact BK352.out⟩, ⟨by (with_reducible repeat (first | refine blk_drewN ?_ _ | refine blk_drew ?_ | refine blk_alloc ?_ _)); exact BK360.out⟩, ⟨by repeat (first | (with_reducible first | exact HB.out | apply below_alloc | apply pw_below_drewN | apply below_drew1 | refine below_set ?_ GE337.out | refine below_set ?_ GE338.out | refine below_set ?_ GE352.out | refine below_set ?_ GE360.out) | exact HB.out)⟩⟩
              · rw [if_neg c42] at H
                exact absurd H (by simp)
            · rw [if_neg c41] at H
              have c41b0 : decide (x16_2 < (x14_2.length : Int)) = false := decide_eq_false c41
              clear c41
              by_cases c47 : t339 = true
              · subst c47
                have H1 : ((bazaarref12_Same.f k2 t340 t343).bind fun t362 => (some t362)) = some r := by rw [if_pos rfl] at H; exact H
                clear H
                have H := H1
                clear H1
                replace H := Option.bind_eq_some_iff.mp H
                obtain ⟨t362, A480, H⟩ := H
                replace H : (some t362) = some r := H
                have A48 := Aside0.mk A480
                clear A480
                obtain rfl := Option.some.inj H
                obtain ⟨Ao49, co49, eo49⟩ := Kd.R_slice HO_14.out
                subst eo49
                obtain ⟨Ao50, co50, eo50⟩ := Kd.R_slice HO_8.out
                subst eo50
                go_wp2_with (first | (go_at_call 27; (with_reducible refine (bazaarref12_Same.calls k2 _ _ t340 _ _ t343 t362 _ ?side1 ?side2 ?side3 ?side4 ?side5 A48.out).mono ?_); (case side1 => exact Laid_below HLD.out (by repeat (first | (with_reducible first | exact HB.out | apply below_alloc | apply pw_below_drewN | apply below_drew1 | refine below_set ?_ GE337.out | refine below_set ?_ GE338.out | refine below_set ?_ GE352.out | refine below_set ?_ GE360.out) | exact HB.out))); (case side2 => repeat (first | exact (Kd.R_reads' HO_1.out).2.2 | (with_reducible refine Kd.C_alloc ?_ _) | (with_reducible refine Kd.C_drewN ?_ _) | (with_reducible refine Kd.C_drew ?_))); (case side3 => exact (Kd.R_reads' HO_1.out).2.1); (case side4 => repeat (first | exact (Kd.R_reads' HO_8.out).2.2 | (with_reducible refine Kd.C_alloc ?_ _) | (with_reducible refine Kd.C_drewN ?_ _) | (with_reducible refine Kd.C_drew ?_))); (case side5 => exact (Kd.R_reads' HO_8.out).2.1); rintro e w51 ⟨rfl, hb⟩; have n0_ := Aside0.mk (Kd.R_below (by (with_reducible repeat (first | apply Kd.R_alloc | apply Kd.R_drewN | apply Kd.R_drew)); exact HO_1.out) hb); have n1_ := Aside0.mk (Kd.R_below (by (with_reducible repeat (first | apply Kd.R_alloc | apply Kd.R_drewN | apply Kd.R_drew)); exact HO_8.out) hb); have n2_ := Aside0.mk (Kd.R_below (by (with_reducible repeat (first | apply Kd.R_alloc | apply Kd.R_drewN | apply Kd.R_drew)); exact HO_14.out) hb); have n3_ := Aside0.mk (blk_below (g := gb337) (o := .cells #[.int .i64 a0_0, .int .i64 a0_1] 38 (0, 0)) (by (with_reducible repeat (first | refine blk_drewN ?_ _ | refine blk_drew ?_ | refine blk_alloc ?_ _)); exact BK337.out) hb); have n4_ := Aside0.mk (blk_below (g := gb338) (o := .cells #[.int .u32 a2_0, .int .i64 a2_1, .int .u16 a2_2, .int .i64 a2_3] 27 (0, 0)) (by (with_reducible repeat (first | refine blk_drewN ?_ _ | refine blk_drew ?_ | refine blk_alloc ?_ _)); exact BK338.out) hb); have n5_ := Aside0.mk (blk_below (g := gb352) (o := .cells #[.int .i64 t346, .int .i64 t347] 38 (0, 0)) (by (with_reducible repeat (first | refine blk_drewN ?_ _ | refine blk_drew ?_ | refine blk_alloc ?_ _)); exact BK352.out) hb); have n6_ := Aside0.mk (blk_below (g := gb360) (o := .cells #[.int .i64 t354, .int .i64 t355] 38 (0, 0)) (by (with_reducible repeat (first | refine blk_drewN ?_ _ | refine blk_drew ?_ | refine blk_alloc ?_ _)); exact BK360.out) hb); have n7_ := Aside0.mk (below_step (by repeat (first | (with_reducible first | exact HB.out | apply below_alloc | apply pw_below_drewN | apply below_drew1 | refine below_set ?_ GE337.out | refine below_set ?_ GE338.out | refine below_set ?_ GE352.out | refine below_set ?_ GE360.out) | exact HB.out)) hb); clear HO_1; clear HO_8; clear HO_14; clear BK337; clear BK338; clear BK352; clear BK360; clear HB; have HO_1 := n0_; have HO_8 := n1_; have HO_14 := n2_; have BK337 := n3_; have BK338 := n4_; have BK352 := n5_; have BK360 := n6_; have HB := n7_; clear n0_ n1_ n2_ n3_ n4_ n5_ n6_ n7_; (try clear hb); (try clear hb2); (try clear hk); (try clear hi)))
                go_ret
                exact ⟨by first | rfl | (simp [errW_none, errW_some] <;> rfl) | (simp [*, errW_none, errW_some] <;> rfl), by repeat (first | (with_reducible first | exact HB.out | apply below_alloc | apply pw_below_drewN | apply below_drew1 | refine below_set ?_ GE337.out | refine below_set ?_ GE338.out | refine below_set ?_ GE352.out | refine below_set ?_ GE360.out) | exact HB.out)⟩
              · replace c47 := Bool.eq_false_iff.mpr c47
                subst c47
                have H1 : (some false) = some r := by rw [if_neg (show ¬ (false = true) by decide)] at H; exact H
                clear H
                have H := H1
                clear H1
                obtain rfl := Option.some.inj H
                obtain ⟨Ao52, co52, eo52⟩ := Kd.R_slice HO_14.out
                subst eo52
                go_wp2
                go_ret
                exact ⟨by first | rfl | (simp [errW_none, errW_some] <;> rfl) | (simp [*, errW_none, errW_some] <;> rfl), by repeat (first | (with_reducible first | exact HB.out | apply below_alloc | apply pw_below_drewN | apply below_drew1 | refine below_set ?_ GE337.out | refine below_set ?_ GE338.out | refine below_set ?_ GE352.out | refine below_set ?_ GE360.out) | exact HB.out)⟩

end Go.Proofs.YtoclldkgkmhgaaaDoor.K
