-- Printed by a program of this session (a turned copy of the print); what it takes as given stands in the seat's own texts.
import Derived.Test.YtoclldkgkmhgaaaDoorKx0
import Derived.Test.YtoclldkgkmhgaaaDoorKx22
import Derived.Test.YtoclldkgkmhgaaaDoorKx41
import Derived.Test.YtoclldkgkmhgaaaDoorGiven
namespace Go.Proofs.YtoclldkgkmhgaaaDoor.K
open Go.RowKit Go.Proofs.YtoclldkgkmhgaaaDoorW.PrintWords Go.Proofs.YtoclldkgkmhgaaaDoorW.PrintLast Go.Proofs.YtoclldkgkmhgaaaDoorW.PrintMore
attribute [local go_sem] max2_int min2_int max_two min_two max_three min_three max_four min_four   -- for this text's walks alone
set_option linter.unusedVariables false
set_option linter.unusedSimpArgs false

/-! ### bazaarlaw14_MailMoves: function 7 -/
mutual
def bazaarlaw14_MailMoves.j0 : Nat → List (S25) → Int → Bool → List (S25) → Int → List (S25) → Int → Int → Int → Int → Int → Int → Int → Int → Int → Int → Int → Int → Option (Bool)
  | 0, _, _, _, _, _, _, _, _, _, _, _, _, _, _, _, _, _, _ => none
  | k + 1, x1, x3, x9, x11, x12, x14, x15, x16, x364000, x364001, x365000, x365001, x365002, x365003, x376000, x376001, x383000, x383001 => if x12 = 0 then (if (wrap64 (x376000 + x365001)) = x364000 then (if x376001 = x364001 then ((bazaarref12_Count.f k x11 x3).bind fun t383 => ((bazaarref12_Count.f k x1 x3).bind fun t384 => (bazaarlaw14_MailMoves.j1 k x1 x3 x9 x14 x15 x16 ((wrap64 (t383 + x16)) != t384) x364000 x364001 x365000 x365001 x365002 x365003 x383000 x383001))) else (bazaarlaw14_MailMoves.j1 k x1 x3 x9 x14 x15 x16 true x364000 x364001 x365000 x365001 x365002 x365003 x383000 x383001)) else (bazaarlaw14_MailMoves.j1 k x1 x3 x9 x14 x15 x16 true x364000 x364001 x365000 x365001 x365002 x365003 x383000 x383001)) else (bazaarlaw14_MailMoves.j1 k x1 x3 x9 x14 x15 x16 false x364000 x364001 x365000 x365001 x365002 x365003 x383000 x383001)
def bazaarlaw14_MailMoves.j1 : Nat → List (S25) → Int → Bool → List (S25) → Int → Int → Bool → Int → Int → Int → Int → Int → Int → Int → Int → Option (Bool)
  | 0, _, _, _, _, _, _, _, _, _, _, _, _, _, _, _ => none
  | k + 1, x1, x3, x9, x14, x15, x16, x73, x364000, x364001, x365000, x365001, x365002, x365003, x383000, x383001 => if x73 = true then (some false) else (if x9 = true then (if x15 = 0 then (if (wrap64 (x383000 - x365001)) = x364000 then (if x383001 = x364001 then ((bazaarref12_Count.f k x14 x3).bind fun t385 => ((bazaarref12_Count.f k x1 x3).bind fun t386 => (some ((wrap64 (t385 - x16)) == t386)))) else (some false)) else (some false)) else (some true)) else (some false))
end
def bazaarlaw14_MailMoves.f (k : Nat) (a0_0 : Int) (a0_1 : Int) (l1 : List (S25)) (a2_0 : Int) (a2_1 : Int) (a2_2 : Int) (a2_3 : Int) (a3 : Int) : Option (Bool) := (bazaarlaw14_shown.f).bind fun t365 => ((bazaarlaw14_cut.f l1).bind fun t366 => ((mail_Send.f a0_0 a0_1 t366 a2_0 a2_1 a2_2 a2_3).bind fun bt369 => ((mail_Claim.f a0_0 a0_1 t366 a2_0 a2_1 a2_2 a2_3).bind fun bt376 => (if a3 = a2_2 then (bazaarlaw14_MailMoves.j0 k t366 a3 t365 bt369.2.2.1 bt369.2.2.2 bt376.2.2.1 bt376.2.2.2 a2_3 a0_0 a0_1 a2_0 a2_1 a2_2 a2_3 bt369.1 bt369.2.1 bt376.1 bt376.2.1) else (bazaarlaw14_MailMoves.j0 k t366 a3 t365 bt369.2.2.1 bt369.2.2.2 bt376.2.2.1 bt376.2.2.2 0 a0_0 a0_1 a2_0 a2_1 a2_2 a2_3 bt369.1 bt369.2.1 bt376.1 bt376.2.1)))))
theorem bazaarlaw14_MailMoves.mono_l : ∀ k, (∀ y0 y1 y2 y3 y4 y5 y6 y7 y8 y9 y10 y11 y12 y13 y14 y15 y16 y17, LeO (bazaarlaw14_MailMoves.j0 k y0 y1 y2 y3 y4 y5 y6 y7 y8 y9 y10 y11 y12 y13 y14 y15 y16 y17) (bazaarlaw14_MailMoves.j0 (k + 1) y0 y1 y2 y3 y4 y5 y6 y7 y8 y9 y10 y11 y12 y13 y14 y15 y16 y17)) ∧ (∀ y0 y1 y2 y3 y4 y5 y6 y7 y8 y9 y10 y11 y12 y13 y14, LeO (bazaarlaw14_MailMoves.j1 k y0 y1 y2 y3 y4 y5 y6 y7 y8 y9 y10 y11 y12 y13 y14) (bazaarlaw14_MailMoves.j1 (k + 1) y0 y1 y2 y3 y4 y5 y6 y7 y8 y9 y10 y11 y12 y13 y14))
  | 0 => ⟨fun _ _ _ _ _ _ _ _ _ _ _ _ _ _ _ _ _ _ r h => by simp [bazaarlaw14_MailMoves.j0] at h, fun _ _ _ _ _ _ _ _ _ _ _ _ _ _ _ r h => by simp [bazaarlaw14_MailMoves.j1] at h⟩
  | k + 1 => by
    obtain ⟨ih0, ih1⟩ := bazaarlaw14_MailMoves.mono_l k
    refine ⟨?_, ?_⟩
    · intro y0 y1 y2 y3 y4 y5 y6 y7 y8 y9 y10 y11 y12 y13 y14 y15 y16 y17
      unfold bazaarlaw14_MailMoves.j0
      repeat' first
      | (with_reducible exact ih0 _ _ _ _ _ _ _ _ _ _ _ _ _ _ _ _ _ _)
      | (with_reducible exact ih1 _ _ _ _ _ _ _ _ _ _ _ _ _ _ _)
      | (with_reducible exact bazaarref12_Count.mono _ _ _)
      | (with_reducible exact LeO.refl _)
      | (with_reducible exact LeO.none _)
      | (with_reducible refine LeO.ite ?_ ?_)
      | (with_reducible refine LeO.bind ?_ (fun _ => ?_))
      | exact ih0 _ _ _ _ _ _ _ _ _ _ _ _ _ _ _ _ _ _
      | exact ih1 _ _ _ _ _ _ _ _ _ _ _ _ _ _ _
      | exact bazaarref12_Count.mono _ _ _
      | exact LeO.none _
      | refine LeO.ite ?_ ?_
      | refine LeO.bind ?_ (fun _ => ?_)
    · intro y0 y1 y2 y3 y4 y5 y6 y7 y8 y9 y10 y11 y12 y13 y14
      unfold bazaarlaw14_MailMoves.j1
      repeat' first
      | (with_reducible exact ih0 _ _ _ _ _ _ _ _ _ _ _ _ _ _ _ _ _ _)
      | (with_reducible exact ih1 _ _ _ _ _ _ _ _ _ _ _ _ _ _ _)
      | (with_reducible exact bazaarref12_Count.mono _ _ _)
      | (with_reducible exact LeO.refl _)
      | (with_reducible exact LeO.none _)
      | (with_reducible refine LeO.ite ?_ ?_)
      | (with_reducible refine LeO.bind ?_ (fun _ => ?_))
      | exact ih0 _ _ _ _ _ _ _ _ _ _ _ _ _ _ _ _ _ _
      | exact ih1 _ _ _ _ _ _ _ _ _ _ _ _ _ _ _
      | exact bazaarref12_Count.mono _ _ _
      | exact LeO.none _
      | refine LeO.ite ?_ ?_
      | refine LeO.bind ?_ (fun _ => ?_)
theorem bazaarlaw14_MailMoves.mono : ∀ a0 a1 a2 a3 a4 a5 a6 a7 k, LeO (bazaarlaw14_MailMoves.f k a0 a1 a2 a3 a4 a5 a6 a7) (bazaarlaw14_MailMoves.f (k + 1) a0 a1 a2 a3 a4 a5 a6 a7) := by
  intro a0 a1 a2 a3 a4 a5 a6 a7 k
  obtain ⟨ih0, ih1⟩ := bazaarlaw14_MailMoves.mono_l k
  unfold bazaarlaw14_MailMoves.f
  repeat' first
      | (with_reducible exact ih0 _ _ _ _ _ _ _ _ _ _ _ _ _ _ _ _ _ _)
      | (with_reducible exact ih1 _ _ _ _ _ _ _ _ _ _ _ _ _ _ _)
      | (with_reducible exact bazaarref12_Count.mono _ _ _)
      | (with_reducible exact LeO.refl _)
      | (with_reducible exact LeO.none _)
      | (with_reducible refine LeO.ite ?_ ?_)
      | (with_reducible refine LeO.bind ?_ (fun _ => ?_))
      | exact ih0 _ _ _ _ _ _ _ _ _ _ _ _ _ _ _ _ _ _
      | exact ih1 _ _ _ _ _ _ _ _ _ _ _ _ _ _ _
      | exact bazaarref12_Count.mono _ _ _
      | exact LeO.none _
      | refine LeO.ite ?_ ?_
      | refine LeO.bind ?_ (fun _ => ?_)
set_option maxHeartbeats 8000000 in
set_option maxRecDepth 100000 in
theorem bazaarlaw14_MailMoves.calls (k : Nat) (a0_0 : Int) (a0_1 : Int) (A1 : Option Addr) (c1 : Nat) (l1 : List (S25)) (a2_0 : Int) (a2_1 : Int) (a2_2 : Int) (a2_3 : Int) (a3 : Int) (r : Bool) (w : World) (hL : Laid w) (hr1 : Kd.C k25 w A1 l1.length l1) (hc1 : l1.length ≤ c1) (h : bazaarlaw14_MailMoves.f k a0_0 a0_1 l1 a2_0 a2_1 a2_2 a2_3 a3 = some r) :
    Calls Tryd.prog 7 #[.agg #[.int .i64 a0_0, .int .i64 a0_1], .slice A1 l1.length c1, .agg #[.int .u32 a2_0, .int .i64 a2_1, .int .u16 a2_2, .int .i64 a2_3], .int .u16 a3] w fun e w' => e = .returned (.bool r) ∧ Below w.heap.size w w' := by
  have hu38 := Tryd.underlying38
  have hu27 := Tryd.underlying27
  have HLD := Aside0.mk hL
  clear hL
  have HR1 := Aside0.mk hr1
  have HC1 := Aside0.mk hc1
  clear hr1 hc1
  have HB := Aside0.mk (Below.refl w.heap.size w)
  have H : ((bazaarlaw14_shown.f).bind fun t365 => ((bazaarlaw14_cut.f l1).bind fun t366 => ((mail_Send.f a0_0 a0_1 t366 a2_0 a2_1 a2_2 a2_3).bind fun bt369 => ((mail_Claim.f a0_0 a0_1 t366 a2_0 a2_1 a2_2 a2_3).bind fun bt376 => (if a3 = a2_2 then (bazaarlaw14_MailMoves.j0 k t366 a3 t365 bt369.2.2.1 bt369.2.2.2 bt376.2.2.1 bt376.2.2.2 a2_3 a0_0 a0_1 a2_0 a2_1 a2_2 a2_3 bt369.1 bt369.2.1 bt376.1 bt376.2.1) else (bazaarlaw14_MailMoves.j0 k t366 a3 t365 bt369.2.2.1 bt369.2.2.2 bt376.2.2.1 bt376.2.2.2 0 a0_0 a0_1 a2_0 a2_1 a2_2 a2_3 bt369.1 bt369.2.1 bt376.1 bt376.2.1)))))) = some r := h
  clear h
  replace H := Option.bind_eq_some_iff.mp H
  obtain ⟨t365, A50, H⟩ := H
  replace H : ((bazaarlaw14_cut.f l1).bind fun t366 => ((mail_Send.f a0_0 a0_1 t366 a2_0 a2_1 a2_2 a2_3).bind fun bt369 => ((mail_Claim.f a0_0 a0_1 t366 a2_0 a2_1 a2_2 a2_3).bind fun bt376 => (if a3 = a2_2 then (bazaarlaw14_MailMoves.j0 k t366 a3 t365 bt369.2.2.1 bt369.2.2.2 bt376.2.2.1 bt376.2.2.2 a2_3 a0_0 a0_1 a2_0 a2_1 a2_2 a2_3 bt369.1 bt369.2.1 bt376.1 bt376.2.1) else (bazaarlaw14_MailMoves.j0 k t366 a3 t365 bt369.2.2.1 bt369.2.2.2 bt376.2.2.1 bt376.2.2.2 0 a0_0 a0_1 a2_0 a2_1 a2_2 a2_3 bt369.1 bt369.2.1 bt376.1 bt376.2.1))))) = some r := H
  have A5 := Aside0.mk A50
  clear A50
  replace H := Option.bind_eq_some_iff.mp H
  obtain ⟨t366, A60, H⟩ := H
  replace H : ((mail_Send.f a0_0 a0_1 t366 a2_0 a2_1 a2_2 a2_3).bind fun bt369 => ((mail_Claim.f a0_0 a0_1 t366 a2_0 a2_1 a2_2 a2_3).bind fun bt376 => (if a3 = a2_2 then (bazaarlaw14_MailMoves.j0 k t366 a3 t365 bt369.2.2.1 bt369.2.2.2 bt376.2.2.1 bt376.2.2.2 a2_3 a0_0 a0_1 a2_0 a2_1 a2_2 a2_3 bt369.1 bt369.2.1 bt376.1 bt376.2.1) else (bazaarlaw14_MailMoves.j0 k t366 a3 t365 bt369.2.2.1 bt369.2.2.2 bt376.2.2.1 bt376.2.2.2 0 a0_0 a0_1 a2_0 a2_1 a2_2 a2_3 bt369.1 bt369.2.1 bt376.1 bt376.2.1)))) = some r := H
  have A6 := Aside0.mk A60
  clear A60
  replace H := Option.bind_eq_some_iff.mp H
  obtain ⟨⟨t369, t370, t371, t374⟩, A70, H⟩ := H
  replace H : ((mail_Claim.f a0_0 a0_1 t366 a2_0 a2_1 a2_2 a2_3).bind fun bt376 => (if a3 = a2_2 then (bazaarlaw14_MailMoves.j0 k t366 a3 t365 t371 t374 bt376.2.2.1 bt376.2.2.2 a2_3 a0_0 a0_1 a2_0 a2_1 a2_2 a2_3 t369 t370 bt376.1 bt376.2.1) else (bazaarlaw14_MailMoves.j0 k t366 a3 t365 t371 t374 bt376.2.2.1 bt376.2.2.2 0 a0_0 a0_1 a2_0 a2_1 a2_2 a2_3 t369 t370 bt376.1 bt376.2.1))) = some r := H
  have A7 := Aside0.mk A70
  clear A70
  replace H := Option.bind_eq_some_iff.mp H
  obtain ⟨⟨t376, t377, t378, t381⟩, A80, H⟩ := H
  replace H : (if a3 = a2_2 then (bazaarlaw14_MailMoves.j0 k t366 a3 t365 t371 t374 t378 t381 a2_3 a0_0 a0_1 a2_0 a2_1 a2_2 a2_3 t369 t370 t376 t377) else (bazaarlaw14_MailMoves.j0 k t366 a3 t365 t371 t374 t378 t381 0 a0_0 a0_1 a2_0 a2_1 a2_2 a2_3 t369 t370 t376 t377)) = some r := H
  have A8 := Aside0.mk A80
  clear A80
  have HC9 := Aside0.mk H
  clear H
  go_enter Tryd.func7, Tryd.ntmps7
  go_upto_if 40 with (first | ((with_reducible refine gate_dst (N := 4) rfl ?_); refine box_event ?hg (N := 4) ?hd (cs := #[.int .i64 a0_0, .int .i64 a0_1]) (t := 38) ?hr ?_; (case hd => rfl); (case hg => rfl); (case hr => first | (go_simp; done) | (go_simp; rfl)); intro gb363 hg w10 hbox hb; have n0_ := Aside0.mk (below_step (by repeat (first | (with_reducible first | exact HB.out | apply below_alloc | apply pw_below_drewN | apply below_drew1) | exact HB.out)) hb); have n1_ := Aside0.mk (hbox); have n2_ := Aside0.mk ((by rw [hg]; exact (below_size (by repeat (first | (with_reducible first | exact HB.out | apply below_alloc | apply pw_below_drewN | apply below_drew1) | exact HB.out))) : w.heap.size ≤ gb363)); have n3_ := Aside0.mk ((by rw [hg]; exact (below_size (by repeat (first | (with_reducible first | exact HB.out | apply below_alloc | apply pw_below_drewN | apply below_drew1) | exact HB.out))) : w.heap.size ≤ gb363)); clear HB; have HB := n0_; have BK363 := n1_; have GW363 := n2_; have GE363 := n3_; clear n0_ n1_ n2_ n3_; clear hb hbox hg) | ((with_reducible refine gate_dst (N := 6) rfl ?_); refine box_event ?hg (N := 6) ?hd (cs := #[.int .u32 a2_0, .int .i64 a2_1, .int .u16 a2_2, .int .i64 a2_3]) (t := 27) ?hr ?_; (case hd => rfl); (case hg => rfl); (case hr => first | (go_simp; done) | (go_simp; rfl)); intro gb364 hg w11 hbox hb; have n0_ := Aside0.mk (blk_below (g := gb363) (o := .cells #[.int .i64 a0_0, .int .i64 a0_1] 38 (0, 0)) (by (with_reducible repeat (first | refine blk_drewN ?_ _ | refine blk_drew ?_ | refine blk_alloc ?_ _)); exact BK363.out) hb); have n1_ := Aside0.mk (below_step (by repeat (first | (with_reducible first | exact HB.out | apply below_alloc | apply pw_below_drewN | apply below_drew1 | refine below_set ?_ GE363.out) | exact HB.out)) hb); have n2_ := Aside0.mk (hbox); have n3_ := Aside0.mk ((by rw [hg]; exact (below_size (by repeat (first | (with_reducible first | exact HB.out | apply below_alloc | apply pw_below_drewN | apply below_drew1 | refine below_set ?_ GE363.out) | exact HB.out))) : w.heap.size ≤ gb364)); have n4_ := Aside0.mk ((by rw [hg]; exact (below_size (by repeat (first | (with_reducible first | exact HB.out | apply below_alloc | apply pw_below_drewN | apply below_drew1 | refine below_set ?_ GE363.out) | exact HB.out))) : w.heap.size ≤ gb364)); have n5_ := Aside0.mk ((by rw [hg]; exact Nat.ne_of_lt (blk_lt (g := gb363) (o := .cells #[.int .i64 a0_0, .int .i64 a0_1] 38 (0, 0)) (by (with_reducible repeat (first | refine blk_drewN ?_ _ | refine blk_drew ?_ | refine blk_alloc ?_ _)); exact BK363.out)) : gb363 ≠ gb364)); have n6_ := Aside0.mk ((by rw [hg]; exact Nat.ne_of_gt (blk_lt (g := gb363) (o := .cells #[.int .i64 a0_0, .int .i64 a0_1] 38 (0, 0)) (by (with_reducible repeat (first | refine blk_drewN ?_ _ | refine blk_drew ?_ | refine blk_alloc ?_ _)); exact BK363.out)) : gb364 ≠ gb363)); clear BK363; clear HB; have BK363 := n0_; have HB := n1_; have BK364 := n2_; have GW364 := n3_; have GE364 := n4_; have NB363_364 := n5_; have NB364_363 := n6_; clear n0_ n1_ n2_ n3_ n4_ n5_ n6_; clear hb hbox hg) | ((with_reducible refine gate_callee (f := 15) rfl ?_); refine goesL_ (some 17) rfl rfl Tryd.func15 (by kernel_rfl) rfl #[] rfl (by (try simp only [List.map_toArray, List.map_cons, List.map_nil]); first | done | rfl | (simp only [List.length_drop, List.length_take]; rfl)) ?_; (with_reducible refine (bazaarlaw14_shown.calls  t365 _ ?side1 A5.out).mono ?_); (case side1 => exact Laid_below HLD.out (by repeat (first | (with_reducible first | exact HB.out | apply below_alloc | apply pw_below_drewN | apply below_drew1 | refine below_set ?_ GE363.out | refine below_set ?_ GE364.out) | exact HB.out))); rintro e w12 ⟨rfl, hb⟩; refine ⟨_, rfl, ?_⟩; have n0_ := Aside0.mk (blk_below (g := gb363) (o := .cells #[.int .i64 a0_0, .int .i64 a0_1] 38 (0, 0)) (by (with_reducible repeat (first | refine blk_drewN ?_ _ | refine blk_drew ?_ | refine blk_alloc ?_ _)); exact BK363.out) hb); have n1_ := Aside0.mk (blk_below (g := gb364) (o := .cells #[.int .u32 a2_0, .int .i64 a2_1, .int .u16 a2_2, .int .i64 a2_3] 27 (0, 0)) (by (with_reducible repeat (first | refine blk_drewN ?_ _ | refine blk_drew ?_ | refine blk_alloc ?_ _)); exact BK364.out) hb); have n2_ := Aside0.mk (below_step (by repeat (first | (with_reducible first | exact HB.out | apply below_alloc | apply pw_below_drewN | apply below_drew1 | refine below_set ?_ GE363.out | refine below_set ?_ GE364.out) | exact HB.out)) hb); clear BK363; clear BK364; clear HB; have BK363 := n0_; have BK364 := n1_; have HB := n2_; clear n0_ n1_ n2_; (try clear hb); (try clear hb2); (try clear hk); (try clear hi)) | ((with_reducible refine gate_callee (f := 22) rfl ?_); refine goesL_ (some 19) rfl rfl Tryd.func22 (by kernel_rfl) rfl #[.slice A1 l1.length c1] rfl (by (try simp only [List.map_toArray, List.map_cons, List.map_nil]); first | done | rfl | (simp only [List.length_drop, List.length_take]; rfl)) ?_; (with_reducible refine (bazaarlaw14_cut.calls _ _ l1 t366 _ ?side1 ?side2 ?side3 A6.out).mono ?_); (case side1 => exact Laid_below HLD.out (by repeat (first | (with_reducible first | exact HB.out | apply below_alloc | apply pw_below_drewN | apply below_drew1 | refine below_set ?_ GE363.out | refine below_set ?_ GE364.out) | exact HB.out))); (case side2 => repeat (first | exact (Kd.C_below HR1.out HB.out) | (with_reducible refine Kd.C_alloc ?_ _) | (with_reducible refine Kd.C_drewN ?_ _) | (with_reducible refine Kd.C_drew ?_))); (case side3 => exact HC1.out); rintro e w13 ⟨v367, rfl, ho0, hb⟩; refine ⟨_, rfl, ?_⟩; have n0_ := Aside0.mk (Kd.R_lower ho0 (below_size (by repeat (first | (with_reducible first | exact HB.out | apply below_alloc | apply pw_below_drewN | apply below_drew1 | refine below_set ?_ GE363.out | refine below_set ?_ GE364.out) | exact HB.out)))); have n1_ := Aside0.mk (blk_below (g := gb363) (o := .cells #[.int .i64 a0_0, .int .i64 a0_1] 38 (0, 0)) (by (with_reducible repeat (first | refine blk_drewN ?_ _ | refine blk_drew ?_ | refine blk_alloc ?_ _)); exact BK363.out) hb); have n2_ := Aside0.mk (blk_below (g := gb364) (o := .cells #[.int .u32 a2_0, .int .i64 a2_1, .int .u16 a2_2, .int .i64 a2_3] 27 (0, 0)) (by (with_reducible repeat (first | refine blk_drewN ?_ _ | refine blk_drew ?_ | refine blk_alloc ?_ _)); exact BK364.out) hb); have n3_ := Aside0.mk (below_step (by repeat (first | (with_reducible first | exact HB.out | apply below_alloc | apply pw_below_drewN | apply below_drew1 | refine below_set ?_ GE363.out | refine below_set ?_ GE364.out) | exact HB.out)) hb); clear BK363; clear BK364; clear HB; have HO368 := n0_; have BK363 := n1_; have BK364 := n2_; have HB := n3_; clear n0_ n1_ n2_ n3_; (try clear hb); (try clear hb2); (try clear hk); (try clear hi); (try clear ho0); have hnb14 := NB363_364.out; have hnc14 := NB364_363.out; have hcz15_0 : w13.cell? ⟨gb363, 0, none⟩ = some (.int .i64 a0_0) := (blk_cell BK363.out 0).trans rfl; have hcz15_1 : w13.cell? ⟨gb363, 1, none⟩ = some (.int .i64 a0_1) := (blk_cell BK363.out 1).trans rfl; have hfz15_0 := blk_frozen BK363.out 0; have hfz15_1 := blk_frozen BK363.out 1; have hcz16_0 : w13.cell? ⟨gb364, 0, none⟩ = some (.int .u32 a2_0) := (blk_cell BK364.out 0).trans rfl; have hcz16_1 : w13.cell? ⟨gb364, 1, none⟩ = some (.int .i64 a2_1) := (blk_cell BK364.out 1).trans rfl; have hcz16_2 : w13.cell? ⟨gb364, 2, none⟩ = some (.int .u16 a2_2) := (blk_cell BK364.out 2).trans rfl; have hcz16_3 : w13.cell? ⟨gb364, 3, none⟩ = some (.int .i64 a2_3) := (blk_cell BK364.out 3).trans rfl; have hfz16_0 := blk_frozen BK364.out 0; have hfz16_1 := blk_frozen BK364.out 1; have hfz16_2 := blk_frozen BK364.out 2; have hfz16_3 := blk_frozen BK364.out 3; obtain ⟨Ao17, co17, eo17⟩ := Kd.R_slice HO368.out; subst eo17) | ((with_reducible refine gate_callee (f := 23) rfl ?_); refine goesL_ (some 24) rfl rfl Tryd.func23 (by kernel_rfl) rfl #[.agg #[.int .i64 a0_0, .int .i64 a0_1], .slice Ao17 t366.length co17, .agg #[.int .u32 a2_0, .int .i64 a2_1, .int .u16 a2_2, .int .i64 a2_3]] rfl (by (try simp only [List.map_toArray, List.map_cons, List.map_nil]); first | done | rfl | (simp only [List.length_drop, List.length_take]; rfl)) ?_; (with_reducible refine (mail_Send.calls a0_0 a0_1 _ _ t366 a2_0 a2_1 a2_2 a2_3 t369 t370 t371 t374 _ ?side1 ?side2 ?side3 A7.out).mono ?_); (case side1 => exact Laid_below HLD.out (by repeat (first | (with_reducible first | exact HB.out | apply below_alloc | apply pw_below_drewN | apply below_drew1 | refine below_set ?_ GE363.out | refine below_set ?_ GE364.out) | exact HB.out))); (case side2 => repeat (first | exact (Kd.R_reads' HO368.out).2.2 | (with_reducible refine Kd.C_alloc ?_ _) | (with_reducible refine Kd.C_drewN ?_ _) | (with_reducible refine Kd.C_drew ?_))); (case side3 => exact (Kd.R_reads' HO368.out).2.1); rintro e w18 ⟨v372, rfl, ho0, hb⟩; refine ⟨_, rfl, ?_⟩; have n0_ := Aside0.mk (Kd.R_elder' (by (with_reducible repeat (first | apply Kd.R_alloc | apply Kd.R_drewN | apply Kd.R_drew)); exact HO368.out) (Kd.R_base ho0) hb); have n1_ := Aside0.mk (Kd.R_lower (Kd.R_new' ho0 (Kd.R_lt (by (with_reducible repeat (first | apply Kd.R_alloc | apply Kd.R_drewN | apply Kd.R_drew)); exact HO368.out))) (below_size (by repeat (first | (with_reducible first | exact HB.out | apply below_alloc | apply pw_below_drewN | apply below_drew1 | refine below_set ?_ GE363.out | refine below_set ?_ GE364.out) | exact HB.out)))); have n2_ := Aside0.mk (blk_below (g := gb363) (o := .cells #[.int .i64 a0_0, .int .i64 a0_1] 38 (0, 0)) (by (with_reducible repeat (first | refine blk_drewN ?_ _ | refine blk_drew ?_ | refine blk_alloc ?_ _)); exact BK363.out) hb); have n3_ := Aside0.mk (blk_below (g := gb364) (o := .cells #[.int .u32 a2_0, .int .i64 a2_1, .int .u16 a2_2, .int .i64 a2_3] 27 (0, 0)) (by (with_reducible repeat (first | refine blk_drewN ?_ _ | refine blk_drew ?_ | refine blk_alloc ?_ _)); exact BK364.out) hb); have n4_ := Aside0.mk (below_step (by repeat (first | (with_reducible first | exact HB.out | apply below_alloc | apply pw_below_drewN | apply below_drew1 | refine below_set ?_ GE363.out | refine below_set ?_ GE364.out) | exact HB.out)) hb); clear HO368; clear BK363; clear BK364; clear HB; have HO368 := n0_; have HO373 := n1_; have BK363 := n2_; have BK364 := n3_; have HB := n4_; clear n0_ n1_ n2_ n3_ n4_; (try clear hb); (try clear hb2); (try clear hk); (try clear hi); (try clear ho0)) | ((with_reducible refine gate_dst (N := 10) rfl ?_); refine box_event ?hg (N := 10) ?hd (cs := #[.int .i64 0, .int .i64 0]) (t := 38) ?hr ?_; (case hd => rfl); (case hg => rfl); (case hr => first | (go_simp; done) | (go_simp; rfl)); intro gb375 hg w19 hbox hb; have n0_ := Aside0.mk (Kd.R_below (by (with_reducible repeat (first | apply Kd.R_alloc | apply Kd.R_drewN | apply Kd.R_drew)); exact HO368.out) hb); have n1_ := Aside0.mk (Kd.R_below (by (with_reducible repeat (first | apply Kd.R_alloc | apply Kd.R_drewN | apply Kd.R_drew)); exact HO373.out) hb); have n2_ := Aside0.mk (blk_below (g := gb363) (o := .cells #[.int .i64 a0_0, .int .i64 a0_1] 38 (0, 0)) (by (with_reducible repeat (first | refine blk_drewN ?_ _ | refine blk_drew ?_ | refine blk_alloc ?_ _)); exact BK363.out) hb); have n3_ := Aside0.mk (blk_below (g := gb364) (o := .cells #[.int .u32 a2_0, .int .i64 a2_1, .int .u16 a2_2, .int .i64 a2_3] 27 (0, 0)) (by (with_reducible repeat (first | refine blk_drewN ?_ _ | refine blk_drew ?_ | refine blk_alloc ?_ _)); exact BK364.out) hb); have n4_ := Aside0.mk (below_step (by repeat (first | (with_reducible first | exact HB.out | apply below_alloc | apply pw_below_drewN | apply below_drew1 | refine below_set ?_ GE363.out | refine below_set ?_ GE364.out) | exact HB.out)) hb); have n5_ := Aside0.mk (hbox); have n6_ := Aside0.mk ((by rw [hg]; exact (below_size (by repeat (first | (with_reducible first | exact HB.out | apply below_alloc | apply pw_below_drewN | apply below_drew1 | refine below_set ?_ GE363.out | refine below_set ?_ GE364.out) | exact HB.out))) : w.heap.size ≤ gb375)); have n7_ := Aside0.mk ((by rw [hg]; exact (below_size (by repeat (first | (with_reducible first | exact HB.out | apply below_alloc | apply pw_below_drewN | apply below_drew1 | refine below_set ?_ GE363.out | refine below_set ?_ GE364.out) | exact HB.out))) : w.heap.size ≤ gb375)); have n8_ := Aside0.mk ((by rw [hg]; exact Nat.ne_of_lt (blk_lt (g := gb363) (o := .cells #[.int .i64 a0_0, .int .i64 a0_1] 38 (0, 0)) (by (with_reducible repeat (first | refine blk_drewN ?_ _ | refine blk_drew ?_ | refine blk_alloc ?_ _)); exact BK363.out)) : gb363 ≠ gb375)); have n9_ := Aside0.mk ((by rw [hg]; exact Nat.ne_of_gt (blk_lt (g := gb363) (o := .cells #[.int .i64 a0_0, .int .i64 a0_1] 38 (0, 0)) (by (with_reducible repeat (first | refine blk_drewN ?_ _ | refine blk_drew ?_ | refine blk_alloc ?_ _)); exact BK363.out)) : gb375 ≠ gb363)); have n10_ := Aside0.mk ((by rw [hg]; exact Nat.ne_of_lt (blk_lt (g := gb364) (o := .cells #[.int .u32 a2_0, .int .i64 a2_1, .int .u16 a2_2, .int .i64 a2_3] 27 (0, 0)) (by (with_reducible repeat (first | refine blk_drewN ?_ _ | refine blk_drew ?_ | refine blk_alloc ?_ _)); exact BK364.out)) : gb364 ≠ gb375)); have n11_ := Aside0.mk ((by rw [hg]; exact Nat.ne_of_gt (blk_lt (g := gb364) (o := .cells #[.int .u32 a2_0, .int .i64 a2_1, .int .u16 a2_2, .int .i64 a2_3] 27 (0, 0)) (by (with_reducible repeat (first | refine blk_drewN ?_ _ | refine blk_drew ?_ | refine blk_alloc ?_ _)); exact BK364.out)) : gb375 ≠ gb364)); clear HO368; clear HO373; clear BK363; clear BK364; clear HB; have HO368 := n0_; have HO373 := n1_; have BK363 := n2_; have BK364 := n3_; have HB := n4_; have BK375 := n5_; have GW375 := n6_; have GE375 := n7_; have NB363_375 := n8_; have NB375_363 := n9_; have NB364_375 := n10_; have NB375_364 := n11_; clear n0_ n1_ n2_ n3_ n4_ n5_ n6_ n7_ n8_ n9_ n10_ n11_; clear hb hbox hg; have hnb20 := NB375_363.out; have hnc20 := NB363_375.out; have hnb21 := NB375_364.out; have hnc21 := NB364_375.out; have hcz22_0 : w19.cell? ⟨gb375, 0, none⟩ = some (.int .i64 0) := (blk_cell BK375.out 0).trans rfl; have hcz22_1 : w19.cell? ⟨gb375, 1, none⟩ = some (.int .i64 0) := (blk_cell BK375.out 1).trans rfl; have hfz22_0 := blk_frozen BK375.out 0; have hfz22_1 := blk_frozen BK375.out 1; have hcz23_0 : w19.cell? ⟨gb363, 0, none⟩ = some (.int .i64 a0_0) := (blk_cell BK363.out 0).trans rfl; have hcz23_1 : w19.cell? ⟨gb363, 1, none⟩ = some (.int .i64 a0_1) := (blk_cell BK363.out 1).trans rfl; have hfz23_0 := blk_frozen BK363.out 0; have hfz23_1 := blk_frozen BK363.out 1; have hcz24_0 : w19.cell? ⟨gb364, 0, none⟩ = some (.int .u32 a2_0) := (blk_cell BK364.out 0).trans rfl; have hcz24_1 : w19.cell? ⟨gb364, 1, none⟩ = some (.int .i64 a2_1) := (blk_cell BK364.out 1).trans rfl; have hcz24_2 : w19.cell? ⟨gb364, 2, none⟩ = some (.int .u16 a2_2) := (blk_cell BK364.out 2).trans rfl; have hcz24_3 : w19.cell? ⟨gb364, 3, none⟩ = some (.int .i64 a2_3) := (blk_cell BK364.out 3).trans rfl; have hfz24_0 := blk_frozen BK364.out 0; have hfz24_1 := blk_frozen BK364.out 1; have hfz24_2 := blk_frozen BK364.out 2; have hfz24_3 := blk_frozen BK364.out 3) | ((with_reducible refine gate_callee (f := 25) rfl ?_); refine goesL_ (some 32) rfl rfl Tryd.func25 (by kernel_rfl) rfl #[.agg #[.int .i64 a0_0, .int .i64 a0_1], .slice Ao17 t366.length co17, .agg #[.int .u32 a2_0, .int .i64 a2_1, .int .u16 a2_2, .int .i64 a2_3]] rfl (by (try simp only [List.map_toArray, List.map_cons, List.map_nil]); first | done | rfl | (simp only [List.length_drop, List.length_take]; rfl)) ?_; (with_reducible refine (mail_Claim.calls a0_0 a0_1 _ _ t366 a2_0 a2_1 a2_2 a2_3 t376 t377 t378 t381 _ ?side1 ?side2 ?side3 A8.out).mono ?_); (case side1 => exact Laid_below HLD.out (by repeat (first | (with_reducible first | exact HB.out | apply below_alloc | apply pw_below_drewN | apply below_drew1 | refine below_set ?_ GE363.out | refine below_set ?_ GE364.out | refine below_set ?_ GE375.out) | exact HB.out))); (case side2 => refine (Kd.R_reads' (e := 25) (base := w.heap.size) (ok := fun k_ => (True ∧ some k_ ≠ (v372 : Value).ownBlock)) (n := t366.length) (c := co17) ?_).2.2; exact (by (with_reducible repeat (first | apply Kd.R_alloc | apply Kd.R_drewN | apply Kd.R_drew)); exact (Kd.R_mono (Kd.R_far (p := ⟨gb375, 1, none⟩) (Kd.R_far (p := ⟨gb375, 0, none⟩) (Kd.R_types HO368.out BK375.out (by decide)) (fun _ hk => hk.2) (.int .i64 t369)) (fun _ hk => hk.2) (.int .i64 t370)) (fun _ h_ => h_.1)))); (case side3 => exact (Kd.R_reads' HO368.out).2.1); rintro e w25 ⟨v379, rfl, ho0, hb⟩; refine ⟨_, rfl, ?_⟩; have n0_ := Aside0.mk (Kd.R_elder' (by (with_reducible repeat (first | apply Kd.R_alloc | apply Kd.R_drewN | apply Kd.R_drew)); exact (Kd.R_mono (Kd.R_far (p := ⟨gb375, 1, none⟩) (Kd.R_far (p := ⟨gb375, 0, none⟩) (Kd.R_types HO368.out BK375.out (by decide)) (fun _ hk => hk.2) (.int .i64 t369)) (fun _ hk => hk.2) (.int .i64 t370)) (fun _ h_ => h_.1))) (Kd.R_base ho0) hb); have n1_ := Aside0.mk (Kd.R_elder' (by (with_reducible repeat (first | apply Kd.R_alloc | apply Kd.R_drewN | apply Kd.R_drew)); exact (Kd.R_mono (Kd.R_far (p := ⟨gb375, 1, none⟩) (Kd.R_far (p := ⟨gb375, 0, none⟩) (Kd.R_types HO373.out BK375.out (by decide)) (fun _ hk => hk.2) (.int .i64 t369)) (fun _ hk => hk.2) (.int .i64 t370)) (fun _ h_ => h_.1))) (Kd.R_base ho0) hb); have n2_ := Aside0.mk (Kd.R_lower (Kd.R_new' (Kd.R_new' ho0 (Kd.R_lt (by (with_reducible repeat (first | apply Kd.R_alloc | apply Kd.R_drewN | apply Kd.R_drew)); exact (Kd.R_mono (Kd.R_far (p := ⟨gb375, 1, none⟩) (Kd.R_far (p := ⟨gb375, 0, none⟩) (Kd.R_types HO368.out BK375.out (by decide)) (fun _ hk => hk.2) (.int .i64 t369)) (fun _ hk => hk.2) (.int .i64 t370)) (fun _ h_ => h_.1))))) (Kd.R_lt (by (with_reducible repeat (first | apply Kd.R_alloc | apply Kd.R_drewN | apply Kd.R_drew)); exact (Kd.R_mono (Kd.R_far (p := ⟨gb375, 1, none⟩) (Kd.R_far (p := ⟨gb375, 0, none⟩) (Kd.R_types HO373.out BK375.out (by decide)) (fun _ hk => hk.2) (.int .i64 t369)) (fun _ hk => hk.2) (.int .i64 t370)) (fun _ h_ => h_.1))))) (below_size (by repeat (first | (with_reducible first | exact HB.out | apply below_alloc | apply pw_below_drewN | apply below_drew1 | refine below_set ?_ GE363.out | refine below_set ?_ GE364.out | refine below_set ?_ GE375.out) | exact HB.out)))); have n3_ := Aside0.mk (blk_below (g := gb363) (o := .cells #[.int .i64 a0_0, .int .i64 a0_1] 38 (0, 0)) (by (with_reducible repeat (first | refine blk_drewN ?_ _ | refine blk_drew ?_ | refine blk_alloc ?_ _)); refine blk_far ?_ NB363_375.out _; (with_reducible repeat (first | refine blk_drewN ?_ _ | refine blk_drew ?_ | refine blk_alloc ?_ _)); refine blk_far ?_ NB363_375.out _; (with_reducible repeat (first | refine blk_drewN ?_ _ | refine blk_drew ?_ | refine blk_alloc ?_ _)); exact BK363.out) hb); have n4_ := Aside0.mk (blk_below (g := gb364) (o := .cells #[.int .u32 a2_0, .int .i64 a2_1, .int .u16 a2_2, .int .i64 a2_3] 27 (0, 0)) (by (with_reducible repeat (first | refine blk_drewN ?_ _ | refine blk_drew ?_ | refine blk_alloc ?_ _)); refine blk_far ?_ NB364_375.out _; (with_reducible repeat (first | refine blk_drewN ?_ _ | refine blk_drew ?_ | refine blk_alloc ?_ _)); refine blk_far ?_ NB364_375.out _; (with_reducible repeat (first | refine blk_drewN ?_ _ | refine blk_drew ?_ | refine blk_alloc ?_ _)); exact BK364.out) hb); have n5_ := Aside0.mk (blk_below (g := gb375) (o := .cells #[.int .i64 t369, .int .i64 t370] 38 (0, 0)) (by (with_reducible repeat (first | refine blk_drewN ?_ _ | refine blk_drew ?_ | refine blk_alloc ?_ _)); refine blk_put (cs := #[.int .i64 t369, .int .i64 0]) ?_ 1 _ rfl; (with_reducible repeat (first | refine blk_drewN ?_ _ | refine blk_drew ?_ | refine blk_alloc ?_ _)); refine blk_put (cs := #[.int .i64 0, .int .i64 0]) ?_ 0 _ rfl; (with_reducible repeat (first | refine blk_drewN ?_ _ | refine blk_drew ?_ | refine blk_alloc ?_ _)); exact BK375.out) hb); have n6_ := Aside0.mk (below_step (by repeat (first | (with_reducible first | exact HB.out | apply below_alloc | apply pw_below_drewN | apply below_drew1 | refine below_set ?_ GE363.out | refine below_set ?_ GE364.out | refine below_set ?_ GE375.out) | exact HB.out)) hb); clear HO368; clear HO373; clear BK363; clear BK364; clear BK375; clear HB; have HO368 := n0_; have HO373 := n1_; have HO380 := n2_; have BK363 := n3_; have BK364 := n4_; have BK375 := n5_; have HB := n6_; clear n0_ n1_ n2_ n3_ n4_ n5_ n6_; (try clear hb); (try clear hb2); (try clear hk); (try clear hi); (try clear ho0)) | ((with_reducible refine gate_dst (N := 13) rfl ?_); refine box_event ?hg (N := 13) ?hd (cs := #[.int .i64 0, .int .i64 0]) (t := 38) ?hr ?_; (case hd => rfl); (case hg => rfl); (case hr => first | (go_simp; done) | (go_simp; rfl)); intro gb382 hg w26 hbox hb; have n0_ := Aside0.mk (Kd.R_below (by (with_reducible repeat (first | apply Kd.R_alloc | apply Kd.R_drewN | apply Kd.R_drew)); exact HO368.out) hb); have n1_ := Aside0.mk (Kd.R_below (by (with_reducible repeat (first | apply Kd.R_alloc | apply Kd.R_drewN | apply Kd.R_drew)); exact HO373.out) hb); have n2_ := Aside0.mk (Kd.R_below (by (with_reducible repeat (first | apply Kd.R_alloc | apply Kd.R_drewN | apply Kd.R_drew)); exact HO380.out) hb); have n3_ := Aside0.mk (blk_below (g := gb363) (o := .cells #[.int .i64 a0_0, .int .i64 a0_1] 38 (0, 0)) (by (with_reducible repeat (first | refine blk_drewN ?_ _ | refine blk_drew ?_ | refine blk_alloc ?_ _)); exact BK363.out) hb); have n4_ := Aside0.mk (blk_below (g := gb364) (o := .cells #[.int .u32 a2_0, .int .i64 a2_1, .int .u16 a2_2, .int .i64 a2_3] 27 (0, 0)) (by (with_reducible repeat (first | refine blk_drewN ?_ _ | refine blk_drew ?_ | refine blk_alloc ?_ _)); exact BK364.out) hb); have n5_ := Aside0.mk (blk_below (g := gb375) (o := .cells #[.int .i64 t369, .int .i64 t370] 38 (0, 0)) (by (with_reducible repeat (first | refine blk_drewN ?_ _ | refine blk_drew ?_ | refine blk_alloc ?_ _)); exact BK375.out) hb); have n6_ := Aside0.mk (below_step (by repeat (first | (with_reducible first | exact HB.out | apply below_alloc | apply pw_below_drewN | apply below_drew1 | refine below_set ?_ GE363.out | refine below_set ?_ GE364.out | refine below_set ?_ GE375.out) | exact HB.out)) hb); have n7_ := Aside0.mk (hbox); have n8_ := Aside0.mk ((by rw [hg]; exact (below_size (by repeat (first | (with_reducible first | exact HB.out | apply below_alloc | apply pw_below_drewN | apply below_drew1 | refine below_set ?_ GE363.out | refine below_set ?_ GE364.out | refine below_set ?_ GE375.out) | exact HB.out))) : w.heap.size ≤ gb382)); have n9_ := Aside0.mk ((by rw [hg]; exact (below_size (by repeat (first | (with_reducible first | exact HB.out | apply below_alloc | apply pw_below_drewN | apply below_drew1 | refine below_set ?_ GE363.out | refine below_set ?_ GE364.out | refine below_set ?_ GE375.out) | exact HB.out))) : w.heap.size ≤ gb382)); have n10_ := Aside0.mk ((by rw [hg]; exact Nat.ne_of_lt (blk_lt (g := gb363) (o := .cells #[.int .i64 a0_0, .int .i64 a0_1] 38 (0, 0)) (by (with_reducible repeat (first | refine blk_drewN ?_ _ | refine blk_drew ?_ | refine blk_alloc ?_ _)); exact BK363.out)) : gb363 ≠ gb382)); have n11_ := Aside0.mk ((by rw [hg]; exact Nat.ne_of_gt (blk_lt (g := gb363) (o := .cells #[.int .i64 a0_0, .int .i64 a0_1] 38 (0, 0)) (by (with_reducible repeat (first | refine blk_drewN ?_ _ | refine blk_drew ?_ | refine blk_alloc ?_ _)); exact BK363.out)) : gb382 ≠ gb363)); have n12_ := Aside0.mk ((by rw [hg]; exact Nat.ne_of_lt (blk_lt (g := gb364) (o := .cells #[.int .u32 a2_0, .int .i64 a2_1, .int .u16 a2_2, .int .i64 a2_3] 27 (0, 0)) (by (with_reducible repeat (first | refine blk_drewN ?_ _ | refine blk_drew ?_ | refine blk_alloc ?_ _)); exact BK364.out)) : gb364 ≠ gb382)); have n13_ := Aside0.mk ((by rw [hg]; exact Nat.ne_of_gt (blk_lt (g := gb364) (o := .cells #[.int .u32 a2_0, .int .i64 a2_1, .int .u16 a2_2, .int .i64 a2_3] 27 (0, 0)) (by (with_reducible repeat (first | refine blk_drewN ?_ _ | refine blk_drew ?_ | refine blk_alloc ?_ _)); exact BK364.out)) : gb382 ≠ gb364)); have n14_ := Aside0.mk ((by rw [hg]; exact Nat.ne_of_lt (blk_lt (g := gb375) (o := .cells #[.int .i64 t369, .int .i64 t370] 38 (0, 0)) (by (with_reducible repeat (first | refine blk_drewN ?_ _ | refine blk_drew ?_ | refine blk_alloc ?_ _)); exact BK375.out)) : gb375 ≠ gb382)); have n15_ := Aside0.mk ((by rw [hg]; exact Nat.ne_of_gt (blk_lt (g := gb375) (o := .cells #[.int .i64 t369, .int .i64 t370] 38 (0, 0)) (by (with_reducible repeat (first | refine blk_drewN ?_ _ | refine blk_drew ?_ | refine blk_alloc ?_ _)); exact BK375.out)) : gb382 ≠ gb375)); clear HO368; clear HO373; clear HO380; clear BK363; clear BK364; clear BK375; clear HB; have HO368 := n0_; have HO373 := n1_; have HO380 := n2_; have BK363 := n3_; have BK364 := n4_; have BK375 := n5_; have HB := n6_; have BK382 := n7_; have GW382 := n8_; have GE382 := n9_; have NB363_382 := n10_; have NB382_363 := n11_; have NB364_382 := n12_; have NB382_364 := n13_; have NB375_382 := n14_; have NB382_375 := n15_; clear n0_ n1_ n2_ n3_ n4_ n5_ n6_ n7_ n8_ n9_ n10_ n11_ n12_ n13_ n14_ n15_; clear hb hbox hg; have hnb27 := NB382_363.out; have hnc27 := NB363_382.out; have hnb28 := NB382_364.out; have hnc28 := NB364_382.out; have hnb29 := NB382_375.out; have hnc29 := NB375_382.out; have hcz30_0 : w26.cell? ⟨gb382, 0, none⟩ = some (.int .i64 0) := (blk_cell BK382.out 0).trans rfl; have hcz30_1 : w26.cell? ⟨gb382, 1, none⟩ = some (.int .i64 0) := (blk_cell BK382.out 1).trans rfl; have hfz30_0 := blk_frozen BK382.out 0; have hfz30_1 := blk_frozen BK382.out 1; have hcz31_0 : w26.cell? ⟨gb364, 0, none⟩ = some (.int .u32 a2_0) := (blk_cell BK364.out 0).trans rfl; have hcz31_1 : w26.cell? ⟨gb364, 1, none⟩ = some (.int .i64 a2_1) := (blk_cell BK364.out 1).trans rfl; have hcz31_2 : w26.cell? ⟨gb364, 2, none⟩ = some (.int .u16 a2_2) := (blk_cell BK364.out 2).trans rfl; have hcz31_3 : w26.cell? ⟨gb364, 3, none⟩ = some (.int .i64 a2_3) := (blk_cell BK364.out 3).trans rfl; have hfz31_0 := blk_frozen BK364.out 0; have hfz31_1 := blk_frozen BK364.out 1; have hfz31_2 := blk_frozen BK364.out 2; have hfz31_3 := blk_frozen BK364.out 3))
  (try simp only [Act.put, List.setIfInBounds_toArray, List.set_cons_zero, List.set_cons_succ])
  go_cut [16] (fun v16 wc => ∃ (kq : Nat) (x16_8 : Int), v16 = .int .i64 x16_8 ∧ Aside0 (bazaarlaw14_MailMoves.j0 kq t366 a3 t365 t371 t374 t378 t381 x16_8 a0_0 a0_1 a2_0 a2_1 a2_2 a2_3 t369 t370 t376 t377 = some r) ∧ Aside0 (kq ≤ k) ∧ Aside0 (Kd.R k25 25 wc w.heap.size (fun k_ => some k_ ≠ (v372 : Value).ownBlock ∧ some k_ ≠ (v379 : Value).ownBlock) (.slice Ao17 t366.length co17) t366) ∧ Aside0 (Kd.R k25 25 wc w.heap.size (fun k_ => some k_ ≠ ((.slice Ao17 t366.length co17) : Value).ownBlock ∧ some k_ ≠ (v379 : Value).ownBlock) v372 t371) ∧ Aside0 (Kd.R k25 25 wc w.heap.size (fun k_ => some k_ ≠ ((.slice Ao17 t366.length co17) : Value).ownBlock ∧ some k_ ≠ (v372 : Value).ownBlock) v379 t378) ∧ Aside0 (wc.heap[gb363]? = some (.cells #[.int .i64 a0_0, .int .i64 a0_1] 38 (0, 0))) ∧ Aside0 (wc.heap[gb364]? = some (.cells #[.int .u32 a2_0, .int .i64 a2_1, .int .u16 a2_2, .int .i64 a2_3] 27 (0, 0))) ∧ Aside0 (wc.heap[gb375]? = some (.cells #[.int .i64 t369, .int .i64 t370] 38 (0, 0))) ∧ Aside0 (wc.heap[gb382]? = some (.cells #[.int .i64 t376, .int .i64 t377] 38 (0, 0))) ∧ Aside0 (Below w.heap.size w wc))
  case first =>
    have H := HC9.out
    clear HC9
    by_cases c32 : a3 = a2_2
    · rw [if_pos c32] at H
      have c32b0 : (a3 == a2_2) = true := beq_iff_eq.mpr c32
      have c32b1 : (a3 != a2_2) = false := bne_eq_false_iff_eq.mpr c32
      clear c32
      (first | rw [c32b0] | (simp only [i64_w, i32_w]; rw [c32b0]) | skip)
      have H' := Aside0.mk H
      clear H
      have hnb33 := NB364_363.out
      have hnc33 := NB363_364.out
      have hnb34 := NB364_375.out
      have hnc34 := NB375_364.out
      have hnb35 := NB364_382.out
      have hnc35 := NB382_364.out
      have hcz36_0 : w26.cell? ⟨gb364, 0, none⟩ = some (.int .u32 a2_0) := (blk_cell BK364.out 0).trans rfl
      have hcz36_1 : w26.cell? ⟨gb364, 1, none⟩ = some (.int .i64 a2_1) := (blk_cell BK364.out 1).trans rfl
      have hcz36_2 : w26.cell? ⟨gb364, 2, none⟩ = some (.int .u16 a2_2) := (blk_cell BK364.out 2).trans rfl
      have hcz36_3 : w26.cell? ⟨gb364, 3, none⟩ = some (.int .i64 a2_3) := (blk_cell BK364.out 3).trans rfl
      have hfz36_0 := blk_frozen BK364.out 0
      have hfz36_1 := blk_frozen BK364.out 1
      have hfz36_2 := blk_frozen BK364.out 2
      have hfz36_3 := blk_frozen BK364.out 3
      go_wp2
      go_meet
      case rel => exact ⟨_, (a2_3), (by first | rfl | (simp; done) | (simp [*]; done)), H', ⟨by first | omega | exact Nat.le_refl _⟩, ⟨by (with_reducible repeat (first | apply Kd.R_alloc | apply Kd.R_drewN | apply Kd.R_drew)); exact Kd.R_mono (Kd.R_far (p := ⟨gb382, 1, none⟩) (Kd.R_far (p := ⟨gb382, 0, none⟩) (Kd.R_types HO368.out BK382.out (by decide)) (fun _ hk => hk.2) (.int .i64 t376)) (fun _ hk => hk.2) (.int .i64 t377)) (fun _ hk => ⟨hk.1.1.2, hk.1.2⟩)⟩, ⟨by (with_reducible repeat (first | apply Kd.R_alloc | apply Kd.R_drewN | apply Kd.R_drew)); exact Kd.R_mono (Kd.R_far (p := ⟨gb382, 1, none⟩) (Kd.R_far (p := ⟨gb382, 0, none⟩) (Kd.R_types HO373.out BK382.out (by decide)) (fun _ hk => hk.2) (.int .i64 t376)) (fun _ hk => hk.2) (.int .i64 t377)) (fun _ hk => ⟨hk.1.1.2, hk.1.2⟩)⟩, ⟨by (with_reducible repeat (first | apply Kd.R_alloc | apply Kd.R_drewN | apply Kd.R_drew)); exact Kd.R_mono (Kd.R_far (p := ⟨gb382, 1, none⟩) (Kd.R_far (p := ⟨gb382, 0, none⟩) (Kd.R_types HO380.out BK382.out (by decide)) (fun _ hk => hk.2) (.int .i64 t376)) (fun _ hk => hk.2) (.int .i64 t377)) (fun _ hk => ⟨hk.1.1.2, hk.1.2⟩)⟩, ⟨by (with_reducible repeat (first | refine blk_drewN ?_ _ | refine blk_drew ?_ | refine blk_alloc ?_ _)); refine blk_far ?_ NB363_382.out _; (with_reducible repeat (first | refine blk_drewN ?_ _ | refine blk_drew ?_ | refine blk_alloc ?_ _)); refine blk_far ?_ NB363_382.out _; (with_reducible repeat (first | refine blk_drewN ?_ _ | refine blk_drew ?_ | refine blk_alloc ?_ _)); exact BK363.out⟩, ⟨by (with_reducible repeat (first | refine blk_drewN ?_ _ | refine blk_drew ?_ | refine blk_alloc ?_ _)); refine blk_far ?_ NB364_382.out _; (with_reducible repeat (first | refine blk_drewN ?_ _ | refine blk_drew ?_ | refine blk_alloc ?_ _)); refine blk_far ?_ NB364_382.out _; (with_reducible repeat (first | refine blk_drewN ?_ _ | refine blk_drew ?_ | refine blk_alloc ?_ _)); exact BK364.out⟩, ⟨by (with_reducible repeat (first | refine blk_drewN ?_ _ | refine blk_drew ?_ | refine blk_alloc ?_ _)); refine blk_far ?_ NB375_382.out _; (with_reducible repeat (first | refine blk_drewN ?_ _ | refine blk_drew ?_ | refine blk_alloc ?_ _)); refine blk_far ?_ NB375_382.out _; (with_reducible repeat (first | refine blk_drewN ?_ _ | refine blk_drew ?_ | refine blk_alloc ?_ _)); exact BK375.out⟩, ⟨by (with_reducible repeat (first | refine blk_drewN ?_ _ | refine blk_drew ?_ | refine blk_alloc ?_ _)); refine blk_put (cs := #[.int .i64 t376, .int .i64 0]) ?_ 1 _ rfl; (with_reducible repeat (first | refine blk_drewN ?_ _ | refine blk_drew ?_ | refine blk_alloc ?_ _)); refine blk_put (cs := #[.int .i64 0, .int .i64 0]) ?_ 0 _ rfl; (with_reducible repeat (first | refine blk_drewN ?_ _ | refine blk_drew ?_ | refine blk_alloc ?_ _)); exact BK382.out⟩, ⟨by repeat (first | (with_reducible first | exact HB.out | apply below_alloc | apply pw_below_drewN | apply below_drew1 | refine below_set ?_ GE363.out | refine below_set ?_ GE364.out | refine below_set ?_ GE375.out | refine below_set ?_ GE382.out) | exact HB.out)⟩⟩
    · rw [if_neg c32] at H
      have c32b0 : (a3 == a2_2) = false := beq_eq_false_iff_ne.mpr c32
      have c32b1 : (a3 != a2_2) = true := bne_iff_ne.mpr c32
      (first | rw [c32b0] | (simp only [i64_w, i32_w]; rw [c32b0]) | skip)
      have H' := Aside0.mk H
      clear H
      go_wp2
      go_meet
      case rel => exact ⟨_, (0), (by first | rfl | (simp; done) | (simp [*]; done)), H', ⟨by first | omega | exact Nat.le_refl _⟩, ⟨by (with_reducible repeat (first | apply Kd.R_alloc | apply Kd.R_drewN | apply Kd.R_drew)); exact Kd.R_mono (Kd.R_far (p := ⟨gb382, 1, none⟩) (Kd.R_far (p := ⟨gb382, 0, none⟩) (Kd.R_types HO368.out BK382.out (by decide)) (fun _ hk => hk.2) (.int .i64 t376)) (fun _ hk => hk.2) (.int .i64 t377)) (fun _ hk => ⟨hk.1.1.2, hk.1.2⟩)⟩, ⟨by (with_reducible repeat (first | apply Kd.R_alloc | apply Kd.R_drewN | apply Kd.R_drew)); exact Kd.R_mono (Kd.R_far (p := ⟨gb382, 1, none⟩) (Kd.R_far (p := ⟨gb382, 0, none⟩) (Kd.R_types HO373.out BK382.out (by decide)) (fun _ hk => hk.2) (.int .i64 t376)) (fun _ hk => hk.2) (.int .i64 t377)) (fun _ hk => ⟨hk.1.1.2, hk.1.2⟩)⟩, ⟨by (with_reducible repeat (first | apply Kd.R_alloc | apply Kd.R_drewN | apply Kd.R_drew)); exact Kd.R_mono (Kd.R_far (p := ⟨gb382, 1, none⟩) (Kd.R_far (p := ⟨gb382, 0, none⟩) (Kd.R_types HO380.out BK382.out (by decide)) (fun _ hk => hk.2) (.int .i64 t376)) (fun _ hk => hk.2) (.int .i64 t377)) (fun _ hk => ⟨hk.1.1.2, hk.1.2⟩)⟩, ⟨by (with_reducible repeat (first | refine blk_drewN ?_ _ | refine blk_drew ?_ | refine blk_alloc ?_ _)); refine blk_far ?_ NB363_382.out _; (with_reducible repeat (first | refine blk_drewN ?_ _ | refine blk_drew ?_ | refine blk_alloc ?_ _)); refine blk_far ?_ NB363_382.out _; (with_reducible repeat (first | refine blk_drewN ?_ _ | refine blk_drew ?_ | refine blk_alloc ?_ _)); exact BK363.out⟩, ⟨by (with_reducible repeat (first | refine blk_drewN ?_ _ | refine blk_drew ?_ | refine blk_alloc ?_ _)); refine blk_far ?_ NB364_382.out _; (with_reducible repeat (first | refine blk_drewN ?_ _ | refine blk_drew ?_ | refine blk_alloc ?_ _)); refine blk_far ?_ NB364_382.out _; (with_reducible repeat (first | refine blk_drewN ?_ _ | refine blk_drew ?_ | refine blk_alloc ?_ _)); exact BK364.out⟩, ⟨by (with_reducible repeat (first | refine blk_drewN ?_ _ | refine blk_drew ?_ | refine blk_alloc ?_ _)); refine blk_far ?_ NB375_382.out _; (with_reducible repeat (first | refine blk_drewN ?_ _ | refine blk_drew ?_ | refine blk_alloc ?_ _)); refine blk_far ?_ NB375_382.out _; (with_reducible repeat (first | refine blk_drewN ?_ _ | refine blk_drew ?_ | refine blk_alloc ?_ _)); exact BK375.out⟩, ⟨by (with_reducible repeat (first | refine blk_drewN ?_ _ | refine blk_drew ?_ | refine blk_alloc ?_ _)); refine blk_put (cs := #[.int .i64 t376, .int .i64 0]) ?_ 1 _ rfl; (with_reducible repeat (first | refine blk_drewN ?_ _ | refine blk_drew ?_ | refine blk_alloc ?_ _)); refine blk_put (cs := #[.int .i64 0, .int .i64 0]) ?_ 0 _ rfl; (with_reducible repeat (first | refine blk_drewN ?_ _ | refine blk_drew ?_ | refine blk_alloc ?_ _)); exact BK382.out⟩, ⟨by repeat (first | (with_reducible first | exact HB.out | apply below_alloc | apply pw_below_drewN | apply below_drew1 | refine below_set ?_ GE363.out | refine below_set ?_ GE364.out | refine below_set ?_ GE375.out | refine below_set ?_ GE382.out) | exact HB.out)⟩⟩
  case rest =>
    clear HC9
    try clear c1
    try clear c2
    try clear p2
    try clear c3
    try clear c7
    try clear c14
    try clear c15
    try clear c20
    try clear c21
    try clear c22
    try clear c23
    try clear c25
    try clear c27
    try clear c28
    try clear c29
    try clear c32
    try clear c32b0
    try clear c32b1
    try clear c33
    try clear c34
    try clear c35
    try clear hcz15_0
    try clear hcz15_1
    try clear hcz16_0
    try clear hcz16_1
    try clear hcz16_2
    try clear hcz16_3
    try clear hcz22_0
    try clear hcz22_1
    try clear hcz23_0
    try clear hcz23_1
    try clear hcz24_0
    try clear hcz24_1
    try clear hcz24_2
    try clear hcz24_3
    try clear hcz30_0
    try clear hcz30_1
    try clear hcz31_0
    try clear hcz31_1
    try clear hcz31_2
    try clear hcz31_3
    try clear hcz36_0
    try clear hcz36_1
    try clear hcz36_2
    try clear hcz36_3
    try clear hfz15_0
    try clear hfz15_1
    try clear hfz16_0
    try clear hfz16_1
    try clear hfz16_2
    try clear hfz16_3
    try clear hfz22_0
    try clear hfz22_1
    try clear hfz23_0
    try clear hfz23_1
    try clear hfz24_0
    try clear hfz24_1
    try clear hfz24_2
    try clear hfz24_3
    try clear hfz30_0
    try clear hfz30_1
    try clear hfz31_0
    try clear hfz31_1
    try clear hfz31_2
    try clear hfz31_3
    try clear hfz36_0
    try clear hfz36_1
    try clear hfz36_2
    try clear hfz36_3
    obtain ⟨kq, x16_8, rfl, HA, HJ8, HO_1, HO_11, HO_14, BK363, BK364, BK375, BK382, HB⟩ := hcut
    cases kq with
    | zero => exact absurd HA.out (by simp [bazaarlaw14_MailMoves.j0])
    | succ kj8 =>
      have H := HA.out
      clear HA
      simp only [bazaarlaw14_MailMoves.j0] at H
      have HC37 := Aside0.mk H
      clear H
      go_upto_region 8 with (fail)
      go_cut [73] (fun v73 wc => ∃ (kq : Nat) (x73_36 : Bool), v73 = .bool x73_36 ∧ Aside0 (bazaarlaw14_MailMoves.j1 kq t366 a3 t365 t378 t381 x16_8 x73_36 a0_0 a0_1 a2_0 a2_1 a2_2 a2_3 t376 t377 = some r) ∧ Aside0 (kq ≤ kj8) ∧ Aside0 (Kd.R k25 25 wc w.heap.size (fun k_ => some k_ ≠ (v379 : Value).ownBlock) (.slice Ao17 t366.length co17) t366) ∧ Aside0 (Kd.R k25 25 wc w.heap.size (fun k_ => some k_ ≠ ((.slice Ao17 t366.length co17) : Value).ownBlock) v379 t378) ∧ Aside0 (wc.heap[gb363]? = some (.cells #[.int .i64 a0_0, .int .i64 a0_1] 38 (0, 0))) ∧ Aside0 (wc.heap[gb364]? = some (.cells #[.int .u32 a2_0, .int .i64 a2_1, .int .u16 a2_2, .int .i64 a2_3] 27 (0, 0))) ∧ Aside0 (wc.heap[gb375]? = some (.cells #[.int .i64 t369, .int .i64 t370] 38 (0, 0))) ∧ Aside0 (wc.heap[gb382]? = some (.cells #[.int .i64 t376, .int .i64 t377] 38 (0, 0))) ∧ Aside0 (Below w.heap.size w wc))
      case first =>
        have H := HC37.out
        clear HC37
        by_cases c38 : t374 = 0
        · rw [if_pos c38] at H
          have c38b0 : (t374 == 0) = true := beq_iff_eq.mpr c38
          have c38b1 : (t374 != 0) = false := bne_eq_false_iff_eq.mpr c38
          clear c38
          (first | rw [c38b0] | (simp only [i64_w, i32_w]; rw [c38b0]) | skip)
          by_cases c39 : (wrap64 (t369 + a2_1)) = a0_0
          · rw [if_pos c39] at H
            have c39b0 : ((wrap64 (t369 + a2_1)) == a0_0) = true := beq_iff_eq.mpr c39
            have c39b1 : ((wrap64 (t369 + a2_1)) != a0_0) = false := bne_eq_false_iff_eq.mpr c39
            clear c39
            by_cases c40 : t370 = a0_1
            · rw [if_pos c40] at H
              have c40b0 : (t370 == a0_1) = true := beq_iff_eq.mpr c40
              have c40b1 : (t370 != a0_1) = false := bne_eq_false_iff_eq.mpr c40
              clear c40
              replace H := Option.bind_eq_some_iff.mp H
              obtain ⟨t383, A410, H⟩ := H
              replace H : ((bazaarref12_Count.f kj8 t366 a3).bind fun t384 => (bazaarlaw14_MailMoves.j1 kj8 t366 a3 t365 t378 t381 x16_8 ((wrap64 (t383 + x16_8)) != t384) a0_0 a0_1 a2_0 a2_1 a2_2 a2_3 t376 t377)) = some r := H
              have A41 := Aside0.mk A410
              clear A410
              replace H := Option.bind_eq_some_iff.mp H
              obtain ⟨t384, A420, H⟩ := H
              replace H : (bazaarlaw14_MailMoves.j1 kj8 t366 a3 t365 t378 t381 x16_8 ((wrap64 (t383 + x16_8)) != t384) a0_0 a0_1 a2_0 a2_1 a2_2 a2_3 t376 t377) = some r := H
              have A42 := Aside0.mk A420
              clear A420
              have H' := Aside0.mk H
              clear H
              have hnb43 := NB375_363.out
              have hnc43 := NB363_375.out
              have hnb44 := NB375_364.out
              have hnc44 := NB364_375.out
              have hnb45 := NB375_382.out
              have hnc45 := NB382_375.out
              have hcz46_0 : wc.cell? ⟨gb375, 0, none⟩ = some (.int .i64 t369) := (blk_cell BK375.out 0).trans rfl
              have hcz46_1 : wc.cell? ⟨gb375, 1, none⟩ = some (.int .i64 t370) := (blk_cell BK375.out 1).trans rfl
              have hfz46_0 := blk_frozen BK375.out 0
              have hfz46_1 := blk_frozen BK375.out 1
              have hnb47 := NB364_363.out
              have hnc47 := NB363_364.out
              have hnb48 := NB364_382.out
              have hnc48 := NB382_364.out
              have hcz49_0 : wc.cell? ⟨gb364, 0, none⟩ = some (.int .u32 a2_0) := (blk_cell BK364.out 0).trans rfl
              have hcz49_1 : wc.cell? ⟨gb364, 1, none⟩ = some (.int .i64 a2_1) := (blk_cell BK364.out 1).trans rfl
              have hcz49_2 : wc.cell? ⟨gb364, 2, none⟩ = some (.int .u16 a2_2) := (blk_cell BK364.out 2).trans rfl
              have hcz49_3 : wc.cell? ⟨gb364, 3, none⟩ = some (.int .i64 a2_3) := (blk_cell BK364.out 3).trans rfl
              have hfz49_0 := blk_frozen BK364.out 0
              have hfz49_1 := blk_frozen BK364.out 1
              have hfz49_2 := blk_frozen BK364.out 2
              have hfz49_3 := blk_frozen BK364.out 3
              have hnb50 := NB363_382.out
              have hnc50 := NB382_363.out
              have hcz51_0 : wc.cell? ⟨gb363, 0, none⟩ = some (.int .i64 a0_0) := (blk_cell BK363.out 0).trans rfl
              have hcz51_1 : wc.cell? ⟨gb363, 1, none⟩ = some (.int .i64 a0_1) := (blk_cell BK363.out 1).trans rfl
              have hfz51_0 := blk_frozen BK363.out 0
              have hfz51_1 := blk_frozen BK363.out 1
              obtain ⟨Ao52, co52, eo52⟩ := Kd.R_slice HO_11.out
              subst eo52
              go_wp2_with (first | (go_at_call 28; (with_reducible refine (bazaarref12_Count.calls kj8 _ _ t371 a3 t383 _ ?side1 ?side2 ?side3 A41.out).mono ?_); (case side1 => exact Laid_below HLD.out (by repeat (first | (with_reducible first | exact HB.out | apply below_alloc | apply pw_below_drewN | apply below_drew1 | refine below_set ?_ GE363.out | refine below_set ?_ GE364.out | refine below_set ?_ GE375.out | refine below_set ?_ GE382.out) | exact HB.out))); (case side2 => repeat (first | exact (Kd.R_reads' HO_11.out).2.2 | (with_reducible refine Kd.C_alloc ?_ _) | (with_reducible refine Kd.C_drewN ?_ _) | (with_reducible refine Kd.C_drew ?_))); (case side3 => exact (Kd.R_reads' HO_11.out).2.1); rintro e w53 ⟨rfl, hb⟩; have n0_ := Aside0.mk (Kd.R_below (by (with_reducible repeat (first | apply Kd.R_alloc | apply Kd.R_drewN | apply Kd.R_drew)); exact HO_1.out) hb); have n1_ := Aside0.mk (Kd.R_below (by (with_reducible repeat (first | apply Kd.R_alloc | apply Kd.R_drewN | apply Kd.R_drew)); exact HO_11.out) hb); have n2_ := Aside0.mk (Kd.R_below (by (with_reducible repeat (first | apply Kd.R_alloc | apply Kd.R_drewN | apply Kd.R_drew)); exact HO_14.out) hb); have n3_ := Aside0.mk (blk_below (g := gb363) (o := .cells #[.int .i64 a0_0, .int .i64 a0_1] 38 (0, 0)) (by (with_reducible repeat (first | refine blk_drewN ?_ _ | refine blk_drew ?_ | refine blk_alloc ?_ _)); exact BK363.out) hb); have n4_ := Aside0.mk (blk_below (g := gb364) (o := .cells #[.int .u32 a2_0, .int .i64 a2_1, .int .u16 a2_2, .int .i64 a2_3] 27 (0, 0)) (by (with_reducible repeat (first | refine blk_drewN ?_ _ | refine blk_drew ?_ | refine blk_alloc ?_ _)); exact BK364.out) hb); have n5_ := Aside0.mk (blk_below (g := gb375) (o := .cells #[.int .i64 t369, .int .i64 t370] 38 (0, 0)) (by (with_reducible repeat (first | refine blk_drewN ?_ _ | refine blk_drew ?_ | refine blk_alloc ?_ _)); exact BK375.out) hb); have n6_ := Aside0.mk (blk_below (g := gb382) (o := .cells #[.int .i64 t376, .int .i64 t377] 38 (0, 0)) (by (with_reducible repeat (first | refine blk_drewN ?_ _ | refine blk_drew ?_ | refine blk_alloc ?_ _)); exact BK382.out) hb); have n7_ := Aside0.mk (below_step (by repeat (first | (with_reducible first | exact HB.out | apply below_alloc | apply pw_below_drewN | apply below_drew1 | refine below_set ?_ GE363.out | refine below_set ?_ GE364.out | refine below_set ?_ GE375.out | refine below_set ?_ GE382.out) | exact HB.out)) hb); clear HO_1; clear HO_11; clear HO_14; clear BK363; clear BK364; clear BK375; clear BK382; clear HB; have HO_1 := n0_; have HO_11 := n1_; have HO_14 := n2_; have BK363 := n3_; have BK364 := n4_; have BK375 := n5_; have BK382 := n6_; have HB := n7_; clear n0_ n1_ n2_ n3_ n4_ n5_ n6_ n7_; (try clear hb); (try clear hb2); (try clear hk); (try clear hi)) | (go_at_call 28; (with_reducible refine (bazaarref12_Count.calls kj8 _ _ t366 a3 t384 _ ?side1 ?side2 ?side3 A42.out).mono ?_); (case side1 => exact Laid_below HLD.out (by repeat (first | (with_reducible first | exact HB.out | apply below_alloc | apply pw_below_drewN | apply below_drew1 | refine below_set ?_ GE363.out | refine below_set ?_ GE364.out | refine below_set ?_ GE375.out | refine below_set ?_ GE382.out) | exact HB.out))); (case side2 => repeat (first | exact (Kd.R_reads' HO_1.out).2.2 | (with_reducible refine Kd.C_alloc ?_ _) | (with_reducible refine Kd.C_drewN ?_ _) | (with_reducible refine Kd.C_drew ?_))); (case side3 => exact (Kd.R_reads' HO_1.out).2.1); rintro e w54 ⟨rfl, hb⟩; have n0_ := Aside0.mk (Kd.R_below (by (with_reducible repeat (first | apply Kd.R_alloc | apply Kd.R_drewN | apply Kd.R_drew)); exact HO_1.out) hb); have n1_ := Aside0.mk (Kd.R_below (by (with_reducible repeat (first | apply Kd.R_alloc | apply Kd.R_drewN | apply Kd.R_drew)); exact HO_11.out) hb); have n2_ := Aside0.mk (Kd.R_below (by (with_reducible repeat (first | apply Kd.R_alloc | apply Kd.R_drewN | apply Kd.R_drew)); exact HO_14.out) hb); have n3_ := Aside0.mk (blk_below (g := gb363) (o := .cells #[.int .i64 a0_0, .int .i64 a0_1] 38 (0, 0)) (by (with_reducible repeat (first | refine blk_drewN ?_ _ | refine blk_drew ?_ | refine blk_alloc ?_ _)); exact BK363.out) hb); have n4_ := Aside0.mk (blk_below (g := gb364) (o := .cells #[.int .u32 a2_0, .int .i64 a2_1, .int .u16 a2_2, .int .i64 a2_3] 27 (0, 0)) (by (with_reducible repeat (first | refine blk_drewN ?_ _ | refine blk_drew ?_ | refine blk_alloc ?_ _)); exact BK364.out) hb); have n5_ := Aside0.mk (blk_below (g := gb375) (o := .cells #[.int .i64 t369, .int .i64 t370] 38 (0, 0)) (by (with_reducible repeat (first | refine blk_drewN ?_ _ | refine blk_drew ?_ | refine blk_alloc ?_ _)); exact BK375.out) hb); have n6_ := Aside0.mk (blk_below (g := gb382) (o := .cells #[.int .i64 t376, .int .i64 t377] 38 (0, 0)) (by (with_reducible repeat (first | refine blk_drewN ?_ _ | refine blk_drew ?_ | refine blk_alloc ?_ _)); exact BK382.out) hb); have n7_ := Aside0.mk (below_step (by repeat (first | (with_reducible first | exact HB.out | apply below_alloc | apply pw_below_drewN | apply below_drew1 | refine below_set ?_ GE363.out | refine below_set ?_ GE364.out | refine below_set ?_ GE375.out | refine below_set ?_ GE382.out) | exact HB.out)) hb); clear HO_1; clear HO_11; clear HO_14; clear BK363; clear BK364; clear BK375; clear BK382; clear HB; have HO_1 := n0_; have HO_11 := n1_; have HO_14 := n2_; have BK363 := n3_; have BK364 := n4_; have BK375 := n5_; have BK382 := n6_; have HB := n7_; clear n0_ n1_ n2_ n3_ n4_ n5_ n6_ n7_; (try clear hb); (try clear hb2); (try clear hk); (try clear hi)))
              go_meet
              case rel => exact ⟨_, (((wrap64 (t383 + x16_8)) != t384)), (by first | rfl | (simp; done) | (simp [*]; done)), H', ⟨by have := HJ8.out; first | omega | exact Nat.le_refl _⟩, ⟨by (with_reducible repeat (first | apply Kd.R_alloc | apply Kd.R_drewN | apply Kd.R_drew)); exact Kd.R_mono HO_1.out (fun _ hk => hk.2)⟩, ⟨by (with_reducible repeat (first | apply Kd.R_alloc | apply Kd.R_drewN | apply Kd.R_drew)); exact Kd.R_mono HO_14.out (fun _ hk => hk.1)⟩, ⟨by (with_reducible repeat (first | refine blk_drewN ?_ _ | refine blk_drew ?_ | refine blk_alloc ?_ _)); exact BK363.out⟩, ⟨by (with_reducible repeat (first | refine blk_drewN ?_ _ | refine blk_drew ?_ | refine blk_alloc ?_ _)); exact BK364.out⟩, ⟨by (with_reducible repeat (first | refine blk_drewN ?_ _ | refine blk_drew ?_ | refine blk_alloc ?_ _)); exact BK375.out⟩, ⟨by (with_reducible repeat (first | refine blk_drewN ?_ _ | refine blk_drew ?_ | refine blk_alloc ?_ _)); exact BK382.out⟩, ⟨by repeat (first | (with_reducible first | exact HB.out | apply below_alloc | apply pw_below_drewN | apply below_drew1 | refine below_set ?_ GE363.out | refine below_set ?_ GE364.out | refine below_set ?_ GE375.out | refine below_set ?_ GE382.out) | exact HB.out)⟩⟩
            · rw [if_neg c40] at H
              have c40b0 : (t370 == a0_1) = false := beq_eq_false_iff_ne.mpr c40
              have c40b1 : (t370 != a0_1) = true := bne_iff_ne.mpr c40
              have H' := Aside0.mk H
              clear H
              have hnb55 := NB375_363.out
              have hnc55 := NB363_375.out
              have hnb56 := NB375_364.out
              have hnc56 := NB364_375.out
              have hnb57 := NB375_382.out
              have hnc57 := NB382_375.out
              have hcz58_0 : wc.cell? ⟨gb375, 0, none⟩ = some (.int .i64 t369) := (blk_cell BK375.out 0).trans rfl
              have hcz58_1 : wc.cell? ⟨gb375, 1, none⟩ = some (.int .i64 t370) := (blk_cell BK375.out 1).trans rfl
              have hfz58_0 := blk_frozen BK375.out 0
              have hfz58_1 := blk_frozen BK375.out 1
              have hnb59 := NB364_363.out
              have hnc59 := NB363_364.out
              have hnb60 := NB364_382.out
              have hnc60 := NB382_364.out
              have hcz61_0 : wc.cell? ⟨gb364, 0, none⟩ = some (.int .u32 a2_0) := (blk_cell BK364.out 0).trans rfl
              have hcz61_1 : wc.cell? ⟨gb364, 1, none⟩ = some (.int .i64 a2_1) := (blk_cell BK364.out 1).trans rfl
              have hcz61_2 : wc.cell? ⟨gb364, 2, none⟩ = some (.int .u16 a2_2) := (blk_cell BK364.out 2).trans rfl
              have hcz61_3 : wc.cell? ⟨gb364, 3, none⟩ = some (.int .i64 a2_3) := (blk_cell BK364.out 3).trans rfl
              have hfz61_0 := blk_frozen BK364.out 0
              have hfz61_1 := blk_frozen BK364.out 1
              have hfz61_2 := blk_frozen BK364.out 2
              have hfz61_3 := blk_frozen BK364.out 3
              have hnb62 := NB363_382.out
              have hnc62 := NB382_363.out
              have hcz63_0 : wc.cell? ⟨gb363, 0, none⟩ = some (.int .i64 a0_0) := (blk_cell BK363.out 0).trans rfl
              have hcz63_1 : wc.cell? ⟨gb363, 1, none⟩ = some (.int .i64 a0_1) := (blk_cell BK363.out 1).trans rfl
              have hfz63_0 := blk_frozen BK363.out 0
              have hfz63_1 := blk_frozen BK363.out 1
              go_wp2
              go_meet
              case rel => exact ⟨_, (true), (by first | rfl | (simp; done) | (simp [*]; done)), H', ⟨by have := HJ8.out; first | omega | exact Nat.le_refl _⟩, ⟨by (with_reducible repeat (first | apply Kd.R_alloc | apply Kd.R_drewN | apply Kd.R_drew)); exact Kd.R_mono HO_1.out (fun _ hk => hk.2)⟩, ⟨by (with_reducible repeat (first | apply Kd.R_alloc | apply Kd.R_drewN | apply Kd.R_drew)); exact Kd.R_mono HO_14.out (fun _ hk => hk.1)⟩, ⟨by (with_reducible repeat (first | refine blk_drewN ?_ _ | refine blk_drew ?_ | refine blk_alloc ?_ _)); exact BK363.out⟩, ⟨by (with_reducible repeat (first | refine blk_drewN ?_ _ | refine blk_drew ?_ | refine blk_alloc ?_ _)); exact BK364.out⟩, ⟨by (with_reducible repeat (first | refine blk_drewN ?_ _ | refine blk_drew ?_ | refine blk_alloc ?_ _)); exact BK375.out⟩, ⟨by (with_reducible repeat (first | refine blk_drewN ?_ _ | refine blk_drew ?_ | refine blk_alloc ?_ _)); exact BK382.out⟩, ⟨by repeat (first | (with_reducible first | exact HB.out | apply below_alloc | apply pw_below_drewN | apply below_drew1 | refine below_set ?_ GE363.out | refine below_set ?_ GE364.out | refine below_set ?_ GE375.out | refine below_set ?_ GE382.out) | exact HB.out)⟩⟩
          · rw [if_neg c39] at H
            have c39b0 : ((wrap64 (t369 + a2_1)) == a0_0) = false := beq_eq_false_iff_ne.mpr c39
            have c39b1 : ((wrap64 (t369 + a2_1)) != a0_0) = true := bne_iff_ne.mpr c39
            have H' := Aside0.mk H
            clear H
            have hnb64 := NB375_363.out
            have hnc64 := NB363_375.out
            have hnb65 := NB375_364.out
            have hnc65 := NB364_375.out
            have hnb66 := NB375_382.out
            have hnc66 := NB382_375.out
            have hcz67_0 : wc.cell? ⟨gb375, 0, none⟩ = some (.int .i64 t369) := (blk_cell BK375.out 0).trans rfl
            have hcz67_1 : wc.cell? ⟨gb375, 1, none⟩ = some (.int .i64 t370) := (blk_cell BK375.out 1).trans rfl
            have hfz67_0 := blk_frozen BK375.out 0
            have hfz67_1 := blk_frozen BK375.out 1
            have hnb68 := NB364_363.out
            have hnc68 := NB363_364.out
            have hnb69 := NB364_382.out
            have hnc69 := NB382_364.out
            have hcz70_0 : wc.cell? ⟨gb364, 0, none⟩ = some (.int .u32 a2_0) := (blk_cell BK364.out 0).trans rfl
            have hcz70_1 : wc.cell? ⟨gb364, 1, none⟩ = some (.int .i64 a2_1) := (blk_cell BK364.out 1).trans rfl
            have hcz70_2 : wc.cell? ⟨gb364, 2, none⟩ = some (.int .u16 a2_2) := (blk_cell BK364.out 2).trans rfl
            have hcz70_3 : wc.cell? ⟨gb364, 3, none⟩ = some (.int .i64 a2_3) := (blk_cell BK364.out 3).trans rfl
            have hfz70_0 := blk_frozen BK364.out 0
            have hfz70_1 := blk_frozen BK364.out 1
            have hfz70_2 := blk_frozen BK364.out 2
            have hfz70_3 := blk_frozen BK364.out 3
            have hnb71 := NB363_382.out
            have hnc71 := NB382_363.out
            have hcz72_0 : wc.cell? ⟨gb363, 0, none⟩ = some (.int .i64 a0_0) := (blk_cell BK363.out 0).trans rfl
            have hcz72_1 : wc.cell? ⟨gb363, 1, none⟩ = some (.int .i64 a0_1) := (blk_cell BK363.out 1).trans rfl
            have hfz72_0 := blk_frozen BK363.out 0
            have hfz72_1 := blk_frozen BK363.out 1
            go_wp2
            go_meet
            case rel => exact ⟨_, (true), (by first | rfl | (simp; done) | (simp [*]; done)), H', ⟨by have := HJ8.out; first | omega | exact Nat.le_refl _⟩, ⟨by (with_reducible repeat (first | apply Kd.R_alloc | apply Kd.R_drewN | apply Kd.R_drew)); exact Kd.R_mono HO_1.out (fun _ hk => hk.2)⟩, ⟨by (with_reducible repeat (first | apply Kd.R_alloc | apply Kd.R_drewN | apply Kd.R_drew)); exact Kd.R_mono HO_14.out (fun _ hk => hk.1)⟩, ⟨by (with_reducible repeat (first | refine blk_drewN ?_ _ | refine blk_drew ?_ | refine blk_alloc ?_ _)); exact BK363.out⟩, ⟨by (with_reducible repeat (first | refine blk_drewN ?_ _ | refine blk_drew ?_ | refine blk_alloc ?_ _)); exact BK364.out⟩, ⟨by (with_reducible repeat (first | refine blk_drewN ?_ _ | refine blk_drew ?_ | refine blk_alloc ?_ _)); exact BK375.out⟩, ⟨by (with_reducible repeat (first | refine blk_drewN ?_ _ | refine blk_drew ?_ | refine blk_alloc ?_ _)); exact BK382.out⟩, ⟨by repeat (first | (with_reducible first | exact HB.out | apply below_alloc | apply pw_below_drewN | apply below_drew1 | refine below_set ?_ GE363.out | refine below_set ?_ GE364.out | refine below_set ?_ GE375.out | refine below_set ?_ GE382.out) | exact HB.out)⟩⟩
        · rw [if_neg c38] at H
          have c38b0 : (t374 == 0) = false := beq_eq_false_iff_ne.mpr c38
          have c38b1 : (t374 != 0) = true := bne_iff_ne.mpr c38
          (first | rw [c38b0] | (simp only [i64_w, i32_w]; rw [c38b0]) | skip)
          have H' := Aside0.mk H
          clear H
          go_wp2
          go_meet
          case rel => exact ⟨_, (false), (by first | rfl | (simp; done) | (simp [*]; done)), H', ⟨by have := HJ8.out; first | omega | exact Nat.le_refl _⟩, ⟨by (with_reducible repeat (first | apply Kd.R_alloc | apply Kd.R_drewN | apply Kd.R_drew)); exact Kd.R_mono HO_1.out (fun _ hk => hk.2)⟩, ⟨by (with_reducible repeat (first | apply Kd.R_alloc | apply Kd.R_drewN | apply Kd.R_drew)); exact Kd.R_mono HO_14.out (fun _ hk => hk.1)⟩, ⟨by (with_reducible repeat (first | refine blk_drewN ?_ _ | refine blk_drew ?_ | refine blk_alloc ?_ _)); exact BK363.out⟩, ⟨by (with_reducible repeat (first | refine blk_drewN ?_ _ | refine blk_drew ?_ | refine blk_alloc ?_ _)); exact BK364.out⟩, ⟨by (with_reducible repeat (first | refine blk_drewN ?_ _ | refine blk_drew ?_ | refine blk_alloc ?_ _)); exact BK375.out⟩, ⟨by (with_reducible repeat (first | refine blk_drewN ?_ _ | refine blk_drew ?_ | refine blk_alloc ?_ _)); exact BK382.out⟩, ⟨by repeat (first | (with_reducible first | exact HB.out | apply below_alloc | apply pw_below_drewN | apply below_drew1 | refine below_set ?_ GE363.out | refine below_set ?_ GE364.out | refine below_set ?_ GE375.out | refine below_set ?_ GE382.out) | exact HB.out)⟩⟩
      case rest =>
        clear HC37
        try clear c1
        try clear c2
        try clear p2
        try clear c3
        try clear c4
        try clear c5
        try clear c6
        try clear p6
        try clear c7
        try clear c14
        try clear c15
        try clear c20
        try clear c21
        try clear c22
        try clear c23
        try clear c25
        try clear c27
        try clear c28
        try clear c29
        try clear c32
        try clear c32b0
        try clear c32b1
        try clear c33
        try clear c34
        try clear c35
        try clear c38
        try clear c38b0
        try clear c38b1
        try clear c39
        try clear c39b0
        try clear c39b1
        try clear c40
        try clear c40b0
        try clear c40b1
        try clear c43
        try clear c44
        try clear c45
        try clear c47
        try clear c48
        try clear c50
        try clear c55
        try clear c56
        try clear c57
        try clear c59
        try clear c60
        try clear c62
        try clear c64
        try clear p64
        try clear c65
        try clear c66
        try clear c68
        try clear c69
        try clear c71
        try clear hcz15_0
        try clear hcz15_1
        try clear hcz16_0
        try clear hcz16_1
        try clear hcz16_2
        try clear hcz16_3
        try clear hcz22_0
        try clear hcz22_1
        try clear hcz23_0
        try clear hcz23_1
        try clear hcz24_0
        try clear hcz24_1
        try clear hcz24_2
        try clear hcz24_3
        try clear hcz30_0
        try clear hcz30_1
        try clear hcz31_0
        try clear hcz31_1
        try clear hcz31_2
        try clear hcz31_3
        try clear hcz36_0
        try clear hcz36_1
        try clear hcz36_2
        try clear hcz36_3
        try clear hcz46_0
        try clear hcz46_1
        try clear hcz49_0
        try clear hcz49_1
        try clear hcz49_2
        try clear hcz49_3
        try clear hcz51_0
        try clear hcz51_1
        try clear hcz58_0
        try clear hcz58_1
        try clear hcz61_0
        try clear hcz61_1
        try clear hcz61_2
        try clear hcz61_3
        try clear hcz63_0
        try clear hcz63_1
        try clear hcz67_0
        try clear hcz67_1
        try clear hcz70_0
        try clear hcz70_1
        try clear hcz70_2
        try clear hcz70_3
        try clear hcz72_0
        try clear hcz72_1
        try clear hfz15_0
        try clear hfz15_1
        try clear hfz16_0
        try clear hfz16_1
        try clear hfz16_2
        try clear hfz16_3
        try clear hfz22_0
        try clear hfz22_1
        try clear hfz23_0
        try clear hfz23_1
        try clear hfz24_0
        try clear hfz24_1
        try clear hfz24_2
        try clear hfz24_3
        try clear hfz30_0
        try clear hfz30_1
        try clear hfz31_0
        try clear hfz31_1
        try clear hfz31_2
        try clear hfz31_3
        try clear hfz36_0
        try clear hfz36_1
        try clear hfz36_2
        try clear hfz36_3
        try clear hfz46_0
        try clear hfz46_1
        try clear hfz49_0
        try clear hfz49_1
        try clear hfz49_2
        try clear hfz49_3
        try clear hfz51_0
        try clear hfz51_1
        try clear hfz58_0
        try clear hfz58_1
        try clear hfz61_0
        try clear hfz61_1
        try clear hfz61_2
        try clear hfz61_3
        try clear hfz63_0
        try clear hfz63_1
        try clear hfz67_0
        try clear hfz67_1
        try clear hfz70_0
        try clear hfz70_1
        try clear hfz70_2
        try clear hfz70_3
        try clear hfz72_0
        try clear hfz72_1
        try clear p2
        obtain ⟨kq, x73_36, rfl, HA, HJ36, HO_1, HO_14, BK363, BK364, BK375, BK382, HB⟩ := hcut
        cases kq with
        | zero => exact absurd HA.out (by simp [bazaarlaw14_MailMoves.j1])
        | succ kj36 =>
          have H := HA.out
          clear HA
          simp only [bazaarlaw14_MailMoves.j1] at H
          by_cases c73 : x73_36 = true
          · subst c73
            have H1 : (some false) = some r := by rw [if_pos rfl] at H; exact H
            clear H
            have H := H1
            clear H1
            obtain rfl := Option.some.inj H
            go_wp2
            go_ret
            exact ⟨by first | rfl | (simp [errW_none, errW_some] <;> rfl) | (simp [*, errW_none, errW_some] <;> rfl), by repeat (first | (with_reducible first | exact HB.out | apply below_alloc | apply pw_below_drewN | apply below_drew1 | refine below_set ?_ GE363.out | refine below_set ?_ GE364.out | refine below_set ?_ GE375.out | refine below_set ?_ GE382.out) | exact HB.out)⟩
          · replace c73 := Bool.eq_false_iff.mpr c73
            subst c73
            have H1 : (if t365 = true then (if t381 = 0 then (if (wrap64 (t376 - a2_1)) = a0_0 then (if t377 = a0_1 then ((bazaarref12_Count.f kj36 t378 a3).bind fun t385 => ((bazaarref12_Count.f kj36 t366 a3).bind fun t386 => (some ((wrap64 (t385 - x16_8)) == t386)))) else (some false)) else (some false)) else (some true)) else (some false)) = some r := by rw [if_neg (show ¬ (false = true) by decide)] at H; exact H
            clear H
            have H := H1
            clear H1
            by_cases c74 : t365 = true
            · subst c74
              have H1 : (if t381 = 0 then (if (wrap64 (t376 - a2_1)) = a0_0 then (if t377 = a0_1 then ((bazaarref12_Count.f kj36 t378 a3).bind fun t385 => ((bazaarref12_Count.f kj36 t366 a3).bind fun t386 => (some ((wrap64 (t385 - x16_8)) == t386)))) else (some false)) else (some false)) else (some true)) = some r := by rw [if_pos rfl] at H; exact H
              clear H
              have H := H1
              clear H1
              by_cases c75 : t381 = 0
              · rw [if_pos c75] at H
                have c75b0 : (t381 == 0) = true := beq_iff_eq.mpr c75
                have c75b1 : (t381 != 0) = false := bne_eq_false_iff_eq.mpr c75
                clear c75
                by_cases c76 : (wrap64 (t376 - a2_1)) = a0_0
                · rw [if_pos c76] at H
                  have c76b0 : ((wrap64 (t376 - a2_1)) == a0_0) = true := beq_iff_eq.mpr c76
                  have c76b1 : ((wrap64 (t376 - a2_1)) != a0_0) = false := bne_eq_false_iff_eq.mpr c76
                  clear c76
                  by_cases c77 : t377 = a0_1
                  · rw [if_pos c77] at H
                    have c77b0 : (t377 == a0_1) = true := beq_iff_eq.mpr c77
                    have c77b1 : (t377 != a0_1) = false := bne_eq_false_iff_eq.mpr c77
                    clear c77
                    replace H := Option.bind_eq_some_iff.mp H
                    obtain ⟨t385, A780, H⟩ := H
                    replace H : ((bazaarref12_Count.f kj36 t366 a3).bind fun t386 => (some ((wrap64 (t385 - x16_8)) == t386))) = some r := H
                    have A78 := Aside0.mk A780
                    clear A780
                    replace H := Option.bind_eq_some_iff.mp H
                    obtain ⟨t386, A790, H⟩ := H
                    replace H : (some ((wrap64 (t385 - x16_8)) == t386)) = some r := H
                    have A79 := Aside0.mk A790
                    clear A790
                    obtain rfl := Option.some.inj H
                    have hnb80 := NB382_363.out
                    have hnc80 := NB363_382.out
                    have hnb81 := NB382_364.out
                    have hnc81 := NB364_382.out
                    have hnb82 := NB382_375.out
                    have hnc82 := NB375_382.out
                    have hcz83_0 : wc.cell? ⟨gb382, 0, none⟩ = some (.int .i64 t376) := (blk_cell BK382.out 0).trans rfl
                    have hcz83_1 : wc.cell? ⟨gb382, 1, none⟩ = some (.int .i64 t377) := (blk_cell BK382.out 1).trans rfl
                    have hfz83_0 := blk_frozen BK382.out 0
                    have hfz83_1 := blk_frozen BK382.out 1
                    have hnb84 := NB364_363.out
                    have hnc84 := NB363_364.out
                    have hnb85 := NB364_375.out
                    have hnc85 := NB375_364.out
                    have hcz86_0 : wc.cell? ⟨gb364, 0, none⟩ = some (.int .u32 a2_0) := (blk_cell BK364.out 0).trans rfl
                    have hcz86_1 : wc.cell? ⟨gb364, 1, none⟩ = some (.int .i64 a2_1) := (blk_cell BK364.out 1).trans rfl
                    have hcz86_2 : wc.cell? ⟨gb364, 2, none⟩ = some (.int .u16 a2_2) := (blk_cell BK364.out 2).trans rfl
                    have hcz86_3 : wc.cell? ⟨gb364, 3, none⟩ = some (.int .i64 a2_3) := (blk_cell BK364.out 3).trans rfl
                    have hfz86_0 := blk_frozen BK364.out 0
                    have hfz86_1 := blk_frozen BK364.out 1
                    have hfz86_2 := blk_frozen BK364.out 2
                    have hfz86_3 := blk_frozen BK364.out 3
                    have hnb87 := NB363_375.out
                    have hnc87 := NB375_363.out
                    have hcz88_0 : wc.cell? ⟨gb363, 0, none⟩ = some (.int .i64 a0_0) := (blk_cell BK363.out 0).trans rfl
                    have hcz88_1 : wc.cell? ⟨gb363, 1, none⟩ = some (.int .i64 a0_1) := (blk_cell BK363.out 1).trans rfl
                    have hfz88_0 := blk_frozen BK363.out 0
                    have hfz88_1 := blk_frozen BK363.out 1
                    obtain ⟨Ao89, co89, eo89⟩ := Kd.R_slice HO_14.out
                    subst eo89
                    go_wp2_with (first | (go_at_call 28; (with_reducible refine (bazaarref12_Count.calls kj36 _ _ t378 a3 t385 _ ?side1 ?side2 ?side3 A78.out).mono ?_); (case side1 => exact Laid_below HLD.out (by repeat (first | (with_reducible first | exact HB.out | apply below_alloc | apply pw_below_drewN | apply below_drew1 | refine below_set ?_ GE363.out | refine below_set ?_ GE364.out | refine below_set ?_ GE375.out | refine below_set ?_ GE382.out) | exact HB.out))); (case side2 => repeat (first | exact (Kd.R_reads' HO_14.out).2.2 | (with_reducible refine Kd.C_alloc ?_ _) | (with_reducible refine Kd.C_drewN ?_ _) | (with_reducible refine Kd.C_drew ?_))); (case side3 => exact (Kd.R_reads' HO_14.out).2.1); rintro e w90 ⟨rfl, hb⟩; have n0_ := Aside0.mk (Kd.R_below (by (with_reducible repeat (first | apply Kd.R_alloc | apply Kd.R_drewN | apply Kd.R_drew)); exact HO_1.out) hb); have n1_ := Aside0.mk (Kd.R_below (by (with_reducible repeat (first | apply Kd.R_alloc | apply Kd.R_drewN | apply Kd.R_drew)); exact HO_14.out) hb); have n2_ := Aside0.mk (blk_below (g := gb363) (o := .cells #[.int .i64 a0_0, .int .i64 a0_1] 38 (0, 0)) (by (with_reducible repeat (first | refine blk_drewN ?_ _ | refine blk_drew ?_ | refine blk_alloc ?_ _)); exact BK363.out) hb); have n3_ := Aside0.mk (blk_below (g := gb364) (o := .cells #[.int .u32 a2_0, .int .i64 a2_1, .int .u16 a2_2, .int .i64 a2_3] 27 (0, 0)) (by (with_reducible repeat (first | refine blk_drewN ?_ _ | refine blk_drew ?_ | refine blk_alloc ?_ _)); exact BK364.out) hb); have n4_ := Aside0.mk (blk_below (g := gb375) (o := .cells #[.int .i64 t369, .int .i64 t370] 38 (0, 0)) (by (with_reducible repeat (first | refine blk_drewN ?_ _ | refine blk_drew ?_ | refine blk_alloc ?_ _)); exact BK375.out) hb); have n5_ := Aside0.mk (blk_below (g := gb382) (o := .cells #[.int .i64 t376, .int .i64 t377] 38 (0, 0)) (by (with_reducible repeat (first | refine blk_drewN ?_ _ | refine blk_drew ?_ | refine blk_alloc ?_ _)); exact BK382.out) hb); have n6_ := Aside0.mk (below_step (by repeat (first | (with_reducible first | exact HB.out | apply below_alloc | apply pw_below_drewN | apply below_drew1 | refine below_set ?_ GE363.out | refine below_set ?_ GE364.out | refine below_set ?_ GE375.out | refine below_set ?_ GE382.out) | exact HB.out)) hb); clear HO_1; clear HO_14; clear BK363; clear BK364; clear BK375; clear BK382; clear HB; have HO_1 := n0_; have HO_14 := n1_; have BK363 := n2_; have BK364 := n3_; have BK375 := n4_; have BK382 := n5_; have HB := n6_; clear n0_ n1_ n2_ n3_ n4_ n5_ n6_; (try clear hb); (try clear hb2); (try clear hk); (try clear hi)) | (go_at_call 28; (with_reducible refine (bazaarref12_Count.calls kj36 _ _ t366 a3 t386 _ ?side1 ?side2 ?side3 A79.out).mono ?_); (case side1 => exact Laid_below HLD.out (by repeat (first | (with_reducible first | exact HB.out | apply below_alloc | apply pw_below_drewN | apply below_drew1 | refine below_set ?_ GE363.out | refine below_set ?_ GE364.out | refine below_set ?_ GE375.out | refine below_set ?_ GE382.out) | exact HB.out))); (case side2 => repeat (first | exact (Kd.R_reads' HO_1.out).2.2 | (with_reducible refine Kd.C_alloc ?_ _) | (with_reducible refine Kd.C_drewN ?_ _) | (with_reducible refine Kd.C_drew ?_))); (case side3 => exact (Kd.R_reads' HO_1.out).2.1); rintro e w91 ⟨rfl, hb⟩; have n0_ := Aside0.mk (Kd.R_below (by (with_reducible repeat (first | apply Kd.R_alloc | apply Kd.R_drewN | apply Kd.R_drew)); exact HO_1.out) hb); have n1_ := Aside0.mk (Kd.R_below (by (with_reducible repeat (first | apply Kd.R_alloc | apply Kd.R_drewN | apply Kd.R_drew)); exact HO_14.out) hb); have n2_ := Aside0.mk (blk_below (g := gb363) (o := .cells #[.int .i64 a0_0, .int .i64 a0_1] 38 (0, 0)) (by (with_reducible repeat (first | refine blk_drewN ?_ _ | refine blk_drew ?_ | refine blk_alloc ?_ _)); exact BK363.out) hb); have n3_ := Aside0.mk (blk_below (g := gb364) (o := .cells #[.int .u32 a2_0, .int .i64 a2_1, .int .u16 a2_2, .int .i64 a2_3] 27 (0, 0)) (by (with_reducible repeat (first | refine blk_drewN ?_ _ | refine blk_drew ?_ | refine blk_alloc ?_ _)); exact BK364.out) hb); have n4_ := Aside0.mk (blk_below (g := gb375) (o := .cells #[.int .i64 t369, .int .i64 t370] 38 (0, 0)) (by (with_reducible repeat (first | refine blk_drewN ?_ _ | refine blk_drew ?_ | refine blk_alloc ?_ _)); exact BK375.out) hb); have n5_ := Aside0.mk (blk_below (g := gb382) (o := .cells #[.int .i64 t376, .int .i64 t377] 38 (0, 0)) (by (with_reducible repeat (first | refine blk_drewN ?_ _ | refine blk_drew ?_ | refine blk_alloc ?_ _)); exact BK382.out) hb); have n6_ := Aside0.mk (below_step (by repeat (first | (with_reducible first | exact HB.out | apply below_alloc | apply pw_below_drewN | apply below_drew1 | refine below_set ?_ GE363.out | refine below_set ?_ GE364.out | refine below_set ?_ GE375.out | refine below_set ?_ GE382.out) | exact HB.out)) hb); clear HO_1; clear HO_14; clear BK363; clear BK364; clear BK375; clear BK382; clear HB; have HO_1 := n0_; have HO_14 := n1_; have BK363 := n2_; have BK364 := n3_; have BK375 := n4_; have BK382 := n5_; have HB := n6_; clear n0_ n1_ n2_ n3_ n4_ n5_ n6_; (try clear hb); (try clear hb2); (try clear hk); (try clear hi)))
                    go_ret
                    exact ⟨by first | rfl | (simp [errW_none, errW_some] <;> rfl) | (simp [*, errW_none, errW_some] <;> rfl), by repeat (first | (with_reducible first | exact HB.out | apply below_alloc | apply pw_below_drewN | apply below_drew1 | refine below_set ?_ GE363.out | refine below_set ?_ GE364.out | refine below_set ?_ GE375.out | refine below_set ?_ GE382.out) | exact HB.out)⟩
                  · rw [if_neg c77] at H
                    have c77b0 : (t377 == a0_1) = false := beq_eq_false_iff_ne.mpr c77
                    have c77b1 : (t377 != a0_1) = true := bne_iff_ne.mpr c77
                    obtain rfl := Option.some.inj H
                    have hnb92 := NB382_363.out
                    have hnc92 := NB363_382.out
                    have hnb93 := NB382_364.out
                    have hnc93 := NB364_382.out
                    have hnb94 := NB382_375.out
                    have hnc94 := NB375_382.out
                    have hcz95_0 : wc.cell? ⟨gb382, 0, none⟩ = some (.int .i64 t376) := (blk_cell BK382.out 0).trans rfl
                    have hcz95_1 : wc.cell? ⟨gb382, 1, none⟩ = some (.int .i64 t377) := (blk_cell BK382.out 1).trans rfl
                    have hfz95_0 := blk_frozen BK382.out 0
                    have hfz95_1 := blk_frozen BK382.out 1
                    have hnb96 := NB364_363.out
                    have hnc96 := NB363_364.out
                    have hnb97 := NB364_375.out
                    have hnc97 := NB375_364.out
                    have hcz98_0 : wc.cell? ⟨gb364, 0, none⟩ = some (.int .u32 a2_0) := (blk_cell BK364.out 0).trans rfl
                    have hcz98_1 : wc.cell? ⟨gb364, 1, none⟩ = some (.int .i64 a2_1) := (blk_cell BK364.out 1).trans rfl
                    have hcz98_2 : wc.cell? ⟨gb364, 2, none⟩ = some (.int .u16 a2_2) := (blk_cell BK364.out 2).trans rfl
                    have hcz98_3 : wc.cell? ⟨gb364, 3, none⟩ = some (.int .i64 a2_3) := (blk_cell BK364.out 3).trans rfl
                    have hfz98_0 := blk_frozen BK364.out 0
                    have hfz98_1 := blk_frozen BK364.out 1
                    have hfz98_2 := blk_frozen BK364.out 2
                    have hfz98_3 := blk_frozen BK364.out 3
                    have hnb99 := NB363_375.out
                    have hnc99 := NB375_363.out
                    have hcz100_0 : wc.cell? ⟨gb363, 0, none⟩ = some (.int .i64 a0_0) := (blk_cell BK363.out 0).trans rfl
                    have hcz100_1 : wc.cell? ⟨gb363, 1, none⟩ = some (.int .i64 a0_1) := (blk_cell BK363.out 1).trans rfl
                    have hfz100_0 := blk_frozen BK363.out 0
                    have hfz100_1 := blk_frozen BK363.out 1
                    go_wp2
                    go_ret
                    exact ⟨by first | rfl | (simp [errW_none, errW_some] <;> rfl) | (simp [*, errW_none, errW_some] <;> rfl), by repeat (first | (with_reducible first | exact HB.out | apply below_alloc | apply pw_below_drewN | apply below_drew1 | refine below_set ?_ GE363.out | refine below_set ?_ GE364.out | refine below_set ?_ GE375.out | refine below_set ?_ GE382.out) | exact HB.out)⟩
                · rw [if_neg c76] at H
                  have c76b0 : ((wrap64 (t376 - a2_1)) == a0_0) = false := beq_eq_false_iff_ne.mpr c76
                  have c76b1 : ((wrap64 (t376 - a2_1)) != a0_0) = true := bne_iff_ne.mpr c76
                  obtain rfl := Option.some.inj H
                  have hnb101 := NB382_363.out
                  have hnc101 := NB363_382.out
                  have hnb102 := NB382_364.out
                  have hnc102 := NB364_382.out
                  have hnb103 := NB382_375.out
                  have hnc103 := NB375_382.out
                  have hcz104_0 : wc.cell? ⟨gb382, 0, none⟩ = some (.int .i64 t376) := (blk_cell BK382.out 0).trans rfl
                  have hcz104_1 : wc.cell? ⟨gb382, 1, none⟩ = some (.int .i64 t377) := (blk_cell BK382.out 1).trans rfl
                  have hfz104_0 := blk_frozen BK382.out 0
                  have hfz104_1 := blk_frozen BK382.out 1
                  have hnb105 := NB364_363.out
                  have hnc105 := NB363_364.out
                  have hnb106 := NB364_375.out
                  have hnc106 := NB375_364.out
                  have hcz107_0 : wc.cell? ⟨gb364, 0, none⟩ = some (.int .u32 a2_0) := (blk_cell BK364.out 0).trans rfl
                  have hcz107_1 : wc.cell? ⟨gb364, 1, none⟩ = some (.int .i64 a2_1) := (blk_cell BK364.out 1).trans rfl
                  have hcz107_2 : wc.cell? ⟨gb364, 2, none⟩ = some (.int .u16 a2_2) := (blk_cell BK364.out 2).trans rfl
                  have hcz107_3 : wc.cell? ⟨gb364, 3, none⟩ = some (.int .i64 a2_3) := (blk_cell BK364.out 3).trans rfl
                  have hfz107_0 := blk_frozen BK364.out 0
                  have hfz107_1 := blk_frozen BK364.out 1
                  have hfz107_2 := blk_frozen BK364.out 2
                  have hfz107_3 := blk_frozen BK364.out 3
                  have hnb108 := NB363_375.out
                  have hnc108 := NB375_363.out
                  have hcz109_0 : wc.cell? ⟨gb363, 0, none⟩ = some (.int .i64 a0_0) := (blk_cell BK363.out 0).trans rfl
                  have hcz109_1 : wc.cell? ⟨gb363, 1, none⟩ = some (.int .i64 a0_1) := (blk_cell BK363.out 1).trans rfl
                  have hfz109_0 := blk_frozen BK363.out 0
                  have hfz109_1 := blk_frozen BK363.out 1
                  go_wp2
                  go_ret
                  exact ⟨by first | rfl | (simp [errW_none, errW_some] <;> rfl) | (simp [*, errW_none, errW_some] <;> rfl), by repeat (first | (with_reducible first | exact HB.out | apply below_alloc | apply pw_below_drewN | apply below_drew1 | refine below_set ?_ GE363.out | refine below_set ?_ GE364.out | refine below_set ?_ GE375.out | refine below_set ?_ GE382.out) | exact HB.out)⟩
              · rw [if_neg c75] at H
                have c75b0 : (t381 == 0) = false := beq_eq_false_iff_ne.mpr c75
                have c75b1 : (t381 != 0) = true := bne_iff_ne.mpr c75
                obtain rfl := Option.some.inj H
                go_wp2
                go_ret
                exact ⟨by first | rfl | (simp [errW_none, errW_some] <;> rfl) | (simp [*, errW_none, errW_some] <;> rfl), by repeat (first | (with_reducible first | exact HB.out | apply below_alloc | apply pw_below_drewN | apply below_drew1 | refine below_set ?_ GE363.out | refine below_set ?_ GE364.out | refine below_set ?_ GE375.out | refine below_set ?_ GE382.out) | exact HB.out)⟩
            · replace c74 := Bool.eq_false_iff.mpr c74
              subst c74
              have H1 : (some false) = some r := by rw [if_neg (show ¬ (false = true) by decide)] at H; exact H
              clear H
              have H := H1
              clear H1
              obtain rfl := Option.some.inj H
              go_wp2
              go_ret
              exact ⟨by first | rfl | (simp [errW_none, errW_some] <;> rfl) | (simp [*, errW_none, errW_some] <;> rfl), by repeat (first | (with_reducible first | exact HB.out | apply below_alloc | apply pw_below_drewN | apply below_drew1 | refine below_set ?_ GE363.out | refine below_set ?_ GE364.out | refine below_set ?_ GE375.out | refine below_set ?_ GE382.out) | exact HB.out)⟩

end Go.Proofs.YtoclldkgkmhgaaaDoor.K
