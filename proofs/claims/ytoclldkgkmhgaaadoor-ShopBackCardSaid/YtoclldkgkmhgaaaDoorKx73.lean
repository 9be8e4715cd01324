-- Printed by a program of this session (a turned copy of the print); what it takes as given stands in the seat's own texts.
import Derived.Test.YtoclldkgkmhgaaaDoorKx0
import Derived.Test.YtoclldkgkmhgaaaDoorKx4
import Derived.Test.YtoclldkgkmhgaaaDoorKx17
import Derived.Test.YtoclldkgkmhgaaaDoorKx55
import Derived.Test.YtoclldkgkmhgaaaDoorGiven15
namespace Go.Proofs.YtoclldkgkmhgaaaDoor.K
open Go.RowKit Go.Proofs.YtoclldkgkmhgaaaDoorW.PrintWords Go.Proofs.YtoclldkgkmhgaaaDoorW.PrintLast Go.Proofs.YtoclldkgkmhgaaaDoorW.PrintMore
attribute [local go_sem] max2_int min2_int max_two min_two max_three min_three max_four min_four   -- for this text's walks alone
set_option linter.unusedVariables false
set_option linter.unusedSimpArgs false

attribute [local go_sem high] eqA49
/-! ### bazaarlaw15_ShopBack: function 14 -/
mutual
def bazaarlaw15_ShopBack.j0 : Nat → List (S25) → ByteArray → Bool → Bool → Int → Int → Int → Int → Option (Bool)
  | 0, _, _, _, _, _, _, _, _ => none
  | k + 1, x0, x2, x7, x48, x618000, x618001, x618002, x618003 => if x48 = true then (some false) else ((shop_Parse.f x2).bind fun bt630 => ((shop_Bytes.f bt630.1 bt630.2.1 bt630.2.2.1 bt630.2.2.2.1).bind fun bt636 => (if bt630.2.2.2.2 = 0 then (if bt636.2 = 0 then (bazaarlaw15_ShopBack.j1 k x0 x7 (bt636.1.toList != x2.toList) x618000 x618001 x618002 x618003) else (bazaarlaw15_ShopBack.j1 k x0 x7 true x618000 x618001 x618002 x618003)) else (bazaarlaw15_ShopBack.j1 k x0 x7 false x618000 x618001 x618002 x618003))))
def bazaarlaw15_ShopBack.j1 : Nat → List (S25) → Bool → Bool → Int → Int → Int → Int → Option (Bool)
  | 0, _, _, _, _, _, _, _ => none
  | k + 1, x0, x7, x69, x618000, x618001, x618002, x618003 => if x69 = true then (some false) else ((shop_List.f x0 x618000 x618001 x618002 x618003).bind fun bt638 => ((shop_Cancel.f bt638.1 x618000 x618001 x618002 x618003).bind fun bt642 => (if x7 = true then (if bt638.2 = 0 then (if bt642.2 = 0 then ((bazaarref12_Same.f k bt642.1 x0).bind fun t646 => (some t646)) else (some false)) else (some true)) else (some false))))
end
def bazaarlaw15_ShopBack.f (k : Nat) (l0 : List (S25)) (a1_0 : Int) (a1_1 : Int) (a1_2 : Int) (a1_3 : Int) (a2 : ByteArray) : Option (Bool) := (bazaarlaw15_shown.f k).bind fun t618 => ((bazaarlaw15_cut.f l0).bind fun t619 => (if 0 ≤ (mn (a2.size : Int) 40) then (if (mn (a2.size : Int) 40) ≤ (a2.size : Int) then ((shop_Bytes.f a1_0 a1_1 a1_2 a1_3).bind fun bt622 => ((shop_Parse.f bt622.1).bind fun bt624 => (if bt622.2 = 0 then (if bt624.2.2.2.2 = 0 then (bazaarlaw15_ShopBack.j0 k t619 (a2.extract 0 ((mn (a2.size : Int) 40) : Int).toNat) t618 (!(bt624.1 == a1_0) || ((!(bt624.2.1 == a1_1) || (!(bt624.2.2.1 == a1_2))) || (!(bt624.2.2.2.1 == a1_3)))) a1_0 a1_1 a1_2 a1_3) else (bazaarlaw15_ShopBack.j0 k t619 (a2.extract 0 ((mn (a2.size : Int) 40) : Int).toNat) t618 true a1_0 a1_1 a1_2 a1_3)) else (bazaarlaw15_ShopBack.j0 k t619 (a2.extract 0 ((mn (a2.size : Int) 40) : Int).toNat) t618 false a1_0 a1_1 a1_2 a1_3)))) else (none)) else (none)))
theorem bazaarlaw15_ShopBack.mono_l : ∀ k, (∀ y0 y1 y2 y3 y4 y5 y6 y7, LeO (bazaarlaw15_ShopBack.j0 k y0 y1 y2 y3 y4 y5 y6 y7) (bazaarlaw15_ShopBack.j0 (k + 1) y0 y1 y2 y3 y4 y5 y6 y7)) ∧ (∀ y0 y1 y2 y3 y4 y5 y6, LeO (bazaarlaw15_ShopBack.j1 k y0 y1 y2 y3 y4 y5 y6) (bazaarlaw15_ShopBack.j1 (k + 1) y0 y1 y2 y3 y4 y5 y6))
  | 0 => ⟨fun _ _ _ _ _ _ _ _ r h => by simp [bazaarlaw15_ShopBack.j0] at h, fun _ _ _ _ _ _ _ r h => by simp [bazaarlaw15_ShopBack.j1] at h⟩
  | k + 1 => by
    obtain ⟨ih0, ih1⟩ := bazaarlaw15_ShopBack.mono_l k
    refine ⟨?_, ?_⟩
    · intro y0 y1 y2 y3 y4 y5 y6 y7
      unfold bazaarlaw15_ShopBack.j0
      repeat' first
      | (with_reducible exact ih0 _ _ _ _ _ _ _ _)
      | (with_reducible exact ih1 _ _ _ _ _ _ _)
      | (with_reducible exact bazaarlaw15_shown.mono _)
      | (with_reducible exact bazaarref12_Same.mono _ _ _)
      | (with_reducible exact LeO.refl _)
      | (with_reducible exact LeO.none _)
      | (with_reducible refine LeO.ite ?_ ?_)
      | (with_reducible refine LeO.bind ?_ (fun _ => ?_))
      | exact ih0 _ _ _ _ _ _ _ _
      | exact ih1 _ _ _ _ _ _ _
      | exact bazaarlaw15_shown.mono _
      | exact bazaarref12_Same.mono _ _ _
      | exact LeO.none _
      | refine LeO.ite ?_ ?_
      | refine LeO.bind ?_ (fun _ => ?_)
    · intro y0 y1 y2 y3 y4 y5 y6
      unfold bazaarlaw15_ShopBack.j1
      repeat' first
      | (with_reducible exact ih0 _ _ _ _ _ _ _ _)
      | (with_reducible exact ih1 _ _ _ _ _ _ _)
      | (with_reducible exact bazaarlaw15_shown.mono _)
      | (with_reducible exact bazaarref12_Same.mono _ _ _)
      | (with_reducible exact LeO.refl _)
      | (with_reducible exact LeO.none _)
      | (with_reducible refine LeO.ite ?_ ?_)
      | (with_reducible refine LeO.bind ?_ (fun _ => ?_))
      | exact ih0 _ _ _ _ _ _ _ _
      | exact ih1 _ _ _ _ _ _ _
      | exact bazaarlaw15_shown.mono _
      | exact bazaarref12_Same.mono _ _ _
      | exact LeO.none _
      | refine LeO.ite ?_ ?_
      | refine LeO.bind ?_ (fun _ => ?_)
theorem bazaarlaw15_ShopBack.mono : ∀ a0 a1 a2 a3 a4 a5 k, LeO (bazaarlaw15_ShopBack.f k a0 a1 a2 a3 a4 a5) (bazaarlaw15_ShopBack.f (k + 1) a0 a1 a2 a3 a4 a5) := by
  intro a0 a1 a2 a3 a4 a5 k
  obtain ⟨ih0, ih1⟩ := bazaarlaw15_ShopBack.mono_l k
  unfold bazaarlaw15_ShopBack.f
  repeat' first
      | (with_reducible exact ih0 _ _ _ _ _ _ _ _)
      | (with_reducible exact ih1 _ _ _ _ _ _ _)
      | (with_reducible exact bazaarlaw15_shown.mono _)
      | (with_reducible exact bazaarref12_Same.mono _ _ _)
      | (with_reducible exact LeO.refl _)
      | (with_reducible exact LeO.none _)
      | (with_reducible refine LeO.ite ?_ ?_)
      | (with_reducible refine LeO.bind ?_ (fun _ => ?_))
      | exact ih0 _ _ _ _ _ _ _ _
      | exact ih1 _ _ _ _ _ _ _
      | exact bazaarlaw15_shown.mono _
      | exact bazaarref12_Same.mono _ _ _
      | exact LeO.none _
      | refine LeO.ite ?_ ?_
      | refine LeO.bind ?_ (fun _ => ?_)
set_option maxHeartbeats 8000000 in
set_option maxRecDepth 100000 in
theorem bazaarlaw15_ShopBack.calls (k : Nat) (A0 : Option Addr) (c0 : Nat) (l0 : List (S25)) (a1_0 : Int) (a1_1 : Int) (a1_2 : Int) (a1_3 : Int) (a2 : ByteArray) (r : Bool) (w : World) (hL : Laid w) (hr0 : Kd.C k25 w A0 l0.length l0) (hc0 : l0.length ≤ c0) (h : bazaarlaw15_ShopBack.f k l0 a1_0 a1_1 a1_2 a1_3 a2 = some r) (hr_ : r = true) :
    Calls Tryd.prog 14 #[.slice A0 l0.length c0, .agg #[.int .u32 a1_0, .int .u16 a1_1, .int .i64 a1_2, .int .i64 a1_3], .string a2] w fun e w' => e = .returned (.bool r) ∧ Below w.heap.size w w' := by
  have HTR_ := Aside0.mk hr_
  clear hr_
  have hu49 := Tryd.underlying49
  have HLD := Aside0.mk hL
  clear hL
  have HR0 := Aside0.mk hr0
  have HC0 := Aside0.mk hc0
  clear hr0 hc0
  have HB := Aside0.mk (Below.refl w.heap.size w)
  have H : ((bazaarlaw15_shown.f k).bind fun t618 => ((bazaarlaw15_cut.f l0).bind fun t619 => (if 0 ≤ (mn (a2.size : Int) 40) then (if (mn (a2.size : Int) 40) ≤ (a2.size : Int) then ((shop_Bytes.f a1_0 a1_1 a1_2 a1_3).bind fun bt622 => ((shop_Parse.f bt622.1).bind fun bt624 => (if bt622.2 = 0 then (if bt624.2.2.2.2 = 0 then (bazaarlaw15_ShopBack.j0 k t619 (a2.extract 0 ((mn (a2.size : Int) 40) : Int).toNat) t618 (!(bt624.1 == a1_0) || ((!(bt624.2.1 == a1_1) || (!(bt624.2.2.1 == a1_2))) || (!(bt624.2.2.2.1 == a1_3)))) a1_0 a1_1 a1_2 a1_3) else (bazaarlaw15_ShopBack.j0 k t619 (a2.extract 0 ((mn (a2.size : Int) 40) : Int).toNat) t618 true a1_0 a1_1 a1_2 a1_3)) else (bazaarlaw15_ShopBack.j0 k t619 (a2.extract 0 ((mn (a2.size : Int) 40) : Int).toNat) t618 false a1_0 a1_1 a1_2 a1_3)))) else (none)) else (none)))) = some r := h
  clear h
  replace H := Option.bind_eq_some_iff.mp H
  obtain ⟨t618, A40, H⟩ := H
  replace H : ((bazaarlaw15_cut.f l0).bind fun t619 => (if 0 ≤ (mn (a2.size : Int) 40) then (if (mn (a2.size : Int) 40) ≤ (a2.size : Int) then ((shop_Bytes.f a1_0 a1_1 a1_2 a1_3).bind fun bt622 => ((shop_Parse.f bt622.1).bind fun bt624 => (if bt622.2 = 0 then (if bt624.2.2.2.2 = 0 then (bazaarlaw15_ShopBack.j0 k t619 (a2.extract 0 ((mn (a2.size : Int) 40) : Int).toNat) t618 (!(bt624.1 == a1_0) || ((!(bt624.2.1 == a1_1) || (!(bt624.2.2.1 == a1_2))) || (!(bt624.2.2.2.1 == a1_3)))) a1_0 a1_1 a1_2 a1_3) else (bazaarlaw15_ShopBack.j0 k t619 (a2.extract 0 ((mn (a2.size : Int) 40) : Int).toNat) t618 true a1_0 a1_1 a1_2 a1_3)) else (bazaarlaw15_ShopBack.j0 k t619 (a2.extract 0 ((mn (a2.size : Int) 40) : Int).toNat) t618 false a1_0 a1_1 a1_2 a1_3)))) else (none)) else (none))) = some r := H
  have A4 := Aside0.mk A40
  clear A40
  replace H := Option.bind_eq_some_iff.mp H
  obtain ⟨t619, A50, H⟩ := H
  replace H : (if 0 ≤ (mn (a2.size : Int) 40) then (if (mn (a2.size : Int) 40) ≤ (a2.size : Int) then ((shop_Bytes.f a1_0 a1_1 a1_2 a1_3).bind fun bt622 => ((shop_Parse.f bt622.1).bind fun bt624 => (if bt622.2 = 0 then (if bt624.2.2.2.2 = 0 then (bazaarlaw15_ShopBack.j0 k t619 (a2.extract 0 ((mn (a2.size : Int) 40) : Int).toNat) t618 (!(bt624.1 == a1_0) || ((!(bt624.2.1 == a1_1) || (!(bt624.2.2.1 == a1_2))) || (!(bt624.2.2.2.1 == a1_3)))) a1_0 a1_1 a1_2 a1_3) else (bazaarlaw15_ShopBack.j0 k t619 (a2.extract 0 ((mn (a2.size : Int) 40) : Int).toNat) t618 true a1_0 a1_1 a1_2 a1_3)) else (bazaarlaw15_ShopBack.j0 k t619 (a2.extract 0 ((mn (a2.size : Int) 40) : Int).toNat) t618 false a1_0 a1_1 a1_2 a1_3)))) else (none)) else (none)) = some r := H
  have A5 := Aside0.mk A50
  clear A50
  obtain ⟨ji6, hji6⟩ : ∃ j_ : Int, (mn (a2.size : Int) 40) = j_ := ⟨_, rfl⟩
  replace H : (if 0 ≤ (ji6) then (if (ji6) ≤ (a2.size : Int) then ((shop_Bytes.f a1_0 a1_1 a1_2 a1_3).bind fun bt622 => ((shop_Parse.f bt622.1).bind fun bt624 => (if bt622.2 = 0 then (if bt624.2.2.2.2 = 0 then (bazaarlaw15_ShopBack.j0 k t619 (a2.extract 0 ((ji6) : Int).toNat) t618 (!(bt624.1 == a1_0) || ((!(bt624.2.1 == a1_1) || (!(bt624.2.2.1 == a1_2))) || (!(bt624.2.2.2.1 == a1_3)))) a1_0 a1_1 a1_2 a1_3) else (bazaarlaw15_ShopBack.j0 k t619 (a2.extract 0 ((ji6) : Int).toNat) t618 true a1_0 a1_1 a1_2 a1_3)) else (bazaarlaw15_ShopBack.j0 k t619 (a2.extract 0 ((ji6) : Int).toNat) t618 false a1_0 a1_1 a1_2 a1_3)))) else (none)) else (none)) = some r := by first | (rw [hji6] at H; exact H) | (simp only [hji6] at H ⊢; exact H)
  (try rw [hji6] at A4)
  (try rw [hji6] at A5)
  (try (have hji6h : ji6 ≤ 40 := by (rw [← hji6]; unfold mn; (repeat' split) <;> omega)))
  (try (have hji6g : ji6 ≤ 64 := by omega))
  (try (have hji6l : 0 ≤ ji6 := by (rw [← hji6]; unfold mn; (repeat' split) <;> omega)))
  (try (have hji6m : 0 ≤ ji6 := by omega))
  have hji6_ : (if 40 < (a2.size : Int) then 40 else (a2.size : Int)) = ji6 := hji6
  by_cases c7 : 0 ≤ (ji6)
  · rw [if_pos c7] at H
    have c7b0 := eq_true c7
    have c7b1 : decide (0 ≤ (ji6)) = true := decide_eq_true c7
    clear c7
    by_cases c8 : (ji6) ≤ (a2.size : Int)
    · rw [if_pos c8] at H
      have c8b0 := eq_true c8
      have c8b1 : decide ((ji6) ≤ (a2.size : Int)) = true := decide_eq_true c8
      clear c8
      replace H := Option.bind_eq_some_iff.mp H
      obtain ⟨⟨t622, t623⟩, A90, H⟩ := H
      replace H : ((shop_Parse.f t622).bind fun bt624 => (if t623 = 0 then (if bt624.2.2.2.2 = 0 then (bazaarlaw15_ShopBack.j0 k t619 (a2.extract 0 ((ji6) : Int).toNat) t618 (!(bt624.1 == a1_0) || ((!(bt624.2.1 == a1_1) || (!(bt624.2.2.1 == a1_2))) || (!(bt624.2.2.2.1 == a1_3)))) a1_0 a1_1 a1_2 a1_3) else (bazaarlaw15_ShopBack.j0 k t619 (a2.extract 0 ((ji6) : Int).toNat) t618 true a1_0 a1_1 a1_2 a1_3)) else (bazaarlaw15_ShopBack.j0 k t619 (a2.extract 0 ((ji6) : Int).toNat) t618 false a1_0 a1_1 a1_2 a1_3))) = some r := H
      have A9 := Aside0.mk A90
      clear A90
      replace H := Option.bind_eq_some_iff.mp H
      obtain ⟨⟨t624, t625, t626, t627, t628⟩, A100, H⟩ := H
      replace H : (if t623 = 0 then (if t628 = 0 then (bazaarlaw15_ShopBack.j0 k t619 (a2.extract 0 ((ji6) : Int).toNat) t618 (!(t624 == a1_0) || ((!(t625 == a1_1) || (!(t626 == a1_2))) || (!(t627 == a1_3)))) a1_0 a1_1 a1_2 a1_3) else (bazaarlaw15_ShopBack.j0 k t619 (a2.extract 0 ((ji6) : Int).toNat) t618 true a1_0 a1_1 a1_2 a1_3)) else (bazaarlaw15_ShopBack.j0 k t619 (a2.extract 0 ((ji6) : Int).toNat) t618 false a1_0 a1_1 a1_2 a1_3)) = some r := H
      have A10 := Aside0.mk A100
      clear A100
      have HC11 := Aside0.mk H
      clear H
      go_enter Tryd.func14, Tryd.ntmps14
      go_upto_region 6 with (first | ((with_reducible refine gate_dst (N := 4) rfl ?_); refine box_event ?hg (N := 4) ?hd (cs := #[.int .u32 a1_0, .int .u16 a1_1, .int .i64 a1_2, .int .i64 a1_3]) (t := 49) ?hr ?_; (case hd => rfl); (case hg => rfl); (case hr => first | (go_simp; done) | (go_simp; rfl)); intro gb617 hg w12 hbox hb; have n0_ := Aside0.mk (below_step (by repeat (first | (with_reducible first | exact HB.out | apply below_alloc | apply pw_below_drewN | apply below_drew1) | exact HB.out)) hb); have n1_ := Aside0.mk (hbox); have n2_ := Aside0.mk ((by rw [hg]; exact (below_size (by repeat (first | (with_reducible first | exact HB.out | apply below_alloc | apply pw_below_drewN | apply below_drew1) | exact HB.out))) : w.heap.size ≤ gb617)); have n3_ := Aside0.mk ((by rw [hg]; exact (below_size (by repeat (first | (with_reducible first | exact HB.out | apply below_alloc | apply pw_below_drewN | apply below_drew1) | exact HB.out))) : w.heap.size ≤ gb617)); clear HB; have HB := n0_; have BK617 := n1_; have GW617 := n2_; have GE617 := n3_; clear n0_ n1_ n2_ n3_; clear hb hbox hg) | ((with_reducible refine gate_callee (f := 29) rfl ?_); refine goesL_ (some 20) rfl rfl Tryd.func29 (by kernel_rfl) rfl #[] rfl (by (try simp only [List.map_toArray, List.map_cons, List.map_nil]); first | done | rfl | (simp only [List.length_drop, List.length_take]; rfl)) ?_; (with_reducible refine (bazaarlaw15_shown.calls k  t618 _ ?side1 A4.out).mono ?_); (case side1 => exact Laid_below HLD.out (by repeat (first | (with_reducible first | exact HB.out | apply below_alloc | apply pw_below_drewN | apply below_drew1 | refine below_set ?_ GE617.out) | exact HB.out))); rintro e w13 ⟨rfl, hb⟩; refine ⟨_, rfl, ?_⟩; have n0_ := Aside0.mk (blk_below (g := gb617) (o := .cells #[.int .u32 a1_0, .int .u16 a1_1, .int .i64 a1_2, .int .i64 a1_3] 49 (0, 0)) (by (with_reducible repeat (first | refine blk_drewN ?_ _ | refine blk_drew ?_ | refine blk_alloc ?_ _)); exact BK617.out) hb); have n1_ := Aside0.mk (below_step (by repeat (first | (with_reducible first | exact HB.out | apply below_alloc | apply pw_below_drewN | apply below_drew1 | refine below_set ?_ GE617.out) | exact HB.out)) hb); clear BK617; clear HB; have BK617 := n0_; have HB := n1_; clear n0_ n1_; (try clear hb); (try clear hb2); (try clear hk); (try clear hi)) | ((with_reducible refine gate_callee (f := 30) rfl ?_); refine goesL_ (some 22) rfl rfl Tryd.func30 (by kernel_rfl) rfl #[.slice A0 l0.length c0] rfl (by (try simp only [List.map_toArray, List.map_cons, List.map_nil]); first | done | rfl | (simp only [List.length_drop, List.length_take]; rfl)) ?_; (with_reducible refine (bazaarlaw15_cut.calls _ _ l0 t619 _ ?side1 ?side2 ?side3 A5.out).mono ?_); (case side1 => exact Laid_below HLD.out (by repeat (first | (with_reducible first | exact HB.out | apply below_alloc | apply pw_below_drewN | apply below_drew1 | refine below_set ?_ GE617.out) | exact HB.out))); (case side2 => repeat (first | exact (Kd.C_below HR0.out HB.out) | (with_reducible refine Kd.C_alloc ?_ _) | (with_reducible refine Kd.C_drewN ?_ _) | (with_reducible refine Kd.C_drew ?_))); (case side3 => exact HC0.out); rintro e w14 ⟨v620, rfl, ho0, hb⟩; refine ⟨_, rfl, ?_⟩; have n0_ := Aside0.mk (Kd.R_lower ho0 (below_size (by repeat (first | (with_reducible first | exact HB.out | apply below_alloc | apply pw_below_drewN | apply below_drew1 | refine below_set ?_ GE617.out) | exact HB.out)))); have n1_ := Aside0.mk (blk_below (g := gb617) (o := .cells #[.int .u32 a1_0, .int .u16 a1_1, .int .i64 a1_2, .int .i64 a1_3] 49 (0, 0)) (by (with_reducible repeat (first | refine blk_drewN ?_ _ | refine blk_drew ?_ | refine blk_alloc ?_ _)); exact BK617.out) hb); have n2_ := Aside0.mk (below_step (by repeat (first | (with_reducible first | exact HB.out | apply below_alloc | apply pw_below_drewN | apply below_drew1 | refine below_set ?_ GE617.out) | exact HB.out)) hb); clear BK617; clear HB; have HO621 := n0_; have BK617 := n1_; have HB := n2_; clear n0_ n1_ n2_; (try clear hb); (try clear hb2); (try clear hk); (try clear hi); (try clear ho0); have hcz15_0 : w14.cell? ⟨gb617, 0, none⟩ = some (.int .u32 a1_0) := (blk_cell BK617.out 0).trans rfl; have hcz15_1 : w14.cell? ⟨gb617, 1, none⟩ = some (.int .u16 a1_1) := (blk_cell BK617.out 1).trans rfl; have hcz15_2 : w14.cell? ⟨gb617, 2, none⟩ = some (.int .i64 a1_2) := (blk_cell BK617.out 2).trans rfl; have hcz15_3 : w14.cell? ⟨gb617, 3, none⟩ = some (.int .i64 a1_3) := (blk_cell BK617.out 3).trans rfl; have hfz15_0 := blk_frozen BK617.out 0; have hfz15_1 := blk_frozen BK617.out 1; have hfz15_2 := blk_frozen BK617.out 2; have hfz15_3 := blk_frozen BK617.out 3) | ((with_reducible refine gate_callee (f := 37) rfl ?_); refine goesL_ (some 30) rfl rfl Tryd.func37 (by kernel_rfl) rfl #[.agg #[.int .u32 a1_0, .int .u16 a1_1, .int .i64 a1_2, .int .i64 a1_3]] rfl (by (try simp only [List.map_toArray, List.map_cons, List.map_nil]); first | done | rfl | (simp only [List.length_drop, List.length_take]; rfl)) ?_; (with_reducible refine (shop_Bytes.calls a1_0 a1_1 a1_2 a1_3 t622 t623 _ ?side1 A9.out).mono ?_); (case side1 => exact Laid_below HLD.out (by repeat (first | (with_reducible first | exact HB.out | apply below_alloc | apply pw_below_drewN | apply below_drew1 | refine below_set ?_ GE617.out) | exact HB.out))); rintro e w16 ⟨rfl, hb⟩; refine ⟨_, rfl, ?_⟩; have n0_ := Aside0.mk (Kd.R_below (by (with_reducible repeat (first | apply Kd.R_alloc | apply Kd.R_drewN | apply Kd.R_drew)); exact HO621.out) hb); have n1_ := Aside0.mk (blk_below (g := gb617) (o := .cells #[.int .u32 a1_0, .int .u16 a1_1, .int .i64 a1_2, .int .i64 a1_3] 49 (0, 0)) (by (with_reducible repeat (first | refine blk_drewN ?_ _ | refine blk_drew ?_ | refine blk_alloc ?_ _)); exact BK617.out) hb); have n2_ := Aside0.mk (below_step (by repeat (first | (with_reducible first | exact HB.out | apply below_alloc | apply pw_below_drewN | apply below_drew1 | refine below_set ?_ GE617.out) | exact HB.out)) hb); clear HO621; clear BK617; clear HB; have HO621 := n0_; have BK617 := n1_; have HB := n2_; clear n0_ n1_ n2_; (try clear hb); (try clear hb2); (try clear hk); (try clear hi)) | ((with_reducible refine gate_callee (f := 39) rfl ?_); refine goesL_ (some 35) rfl rfl Tryd.func39 (by kernel_rfl) rfl #[.string t622] rfl (by (try simp only [List.map_toArray, List.map_cons, List.map_nil]); first | done | rfl | (simp only [List.length_drop, List.length_take]; rfl)) ?_; (with_reducible refine (shop_Parse.calls t622 t624 t625 t626 t627 t628 _ ?side1 A10.out).mono ?_); (case side1 => exact Laid_below HLD.out (by repeat (first | (with_reducible first | exact HB.out | apply below_alloc | apply pw_below_drewN | apply below_drew1 | refine below_set ?_ GE617.out) | exact HB.out))); rintro e w17 ⟨rfl, hb⟩; refine ⟨_, rfl, ?_⟩; have n0_ := Aside0.mk (Kd.R_below (by (with_reducible repeat (first | apply Kd.R_alloc | apply Kd.R_drewN | apply Kd.R_drew)); exact HO621.out) hb); have n1_ := Aside0.mk (blk_below (g := gb617) (o := .cells #[.int .u32 a1_0, .int .u16 a1_1, .int .i64 a1_2, .int .i64 a1_3] 49 (0, 0)) (by (with_reducible repeat (first | refine blk_drewN ?_ _ | refine blk_drew ?_ | refine blk_alloc ?_ _)); exact BK617.out) hb); have n2_ := Aside0.mk (below_step (by repeat (first | (with_reducible first | exact HB.out | apply below_alloc | apply pw_below_drewN | apply below_drew1 | refine below_set ?_ GE617.out) | exact HB.out)) hb); clear HO621; clear BK617; clear HB; have HO621 := n0_; have BK617 := n1_; have HB := n2_; clear n0_ n1_ n2_; (try clear hb); (try clear hb2); (try clear hk); (try clear hi)) | ((with_reducible refine gate_dst (N := 10) rfl ?_); refine box_event ?hg (N := 10) ?hd (cs := #[.int .u32 0, .int .u16 0, .int .i64 0, .int .i64 0]) (t := 49) ?hr ?_; (case hd => rfl); (case hg => rfl); (case hr => first | (go_simp; done) | (go_simp; rfl)); intro gb629 hg w18 hbox hb; have n0_ := Aside0.mk (Kd.R_below (by (with_reducible repeat (first | apply Kd.R_alloc | apply Kd.R_drewN | apply Kd.R_drew)); exact HO621.out) hb); have n1_ := Aside0.mk (blk_below (g := gb617) (o := .cells #[.int .u32 a1_0, .int .u16 a1_1, .int .i64 a1_2, .int .i64 a1_3] 49 (0, 0)) (by (with_reducible repeat (first | refine blk_drewN ?_ _ | refine blk_drew ?_ | refine blk_alloc ?_ _)); exact BK617.out) hb); have n2_ := Aside0.mk (below_step (by repeat (first | (with_reducible first | exact HB.out | apply below_alloc | apply pw_below_drewN | apply below_drew1 | refine below_set ?_ GE617.out) | exact HB.out)) hb); have n3_ := Aside0.mk (hbox); have n4_ := Aside0.mk ((by rw [hg]; exact (below_size (by repeat (first | (with_reducible first | exact HB.out | apply below_alloc | apply pw_below_drewN | apply below_drew1 | refine below_set ?_ GE617.out) | exact HB.out))) : w.heap.size ≤ gb629)); have n5_ := Aside0.mk ((by rw [hg]; exact (below_size (by repeat (first | (with_reducible first | exact HB.out | apply below_alloc | apply pw_below_drewN | apply below_drew1 | refine below_set ?_ GE617.out) | exact HB.out))) : w.heap.size ≤ gb629)); have n6_ := Aside0.mk ((by rw [hg]; exact Nat.ne_of_lt (blk_lt (g := gb617) (o := .cells #[.int .u32 a1_0, .int .u16 a1_1, .int .i64 a1_2, .int .i64 a1_3] 49 (0, 0)) (by (with_reducible repeat (first | refine blk_drewN ?_ _ | refine blk_drew ?_ | refine blk_alloc ?_ _)); exact BK617.out)) : gb617 ≠ gb629)); have n7_ := Aside0.mk ((by rw [hg]; exact Nat.ne_of_gt (blk_lt (g := gb617) (o := .cells #[.int .u32 a1_0, .int .u16 a1_1, .int .i64 a1_2, .int .i64 a1_3] 49 (0, 0)) (by (with_reducible repeat (first | refine blk_drewN ?_ _ | refine blk_drew ?_ | refine blk_alloc ?_ _)); exact BK617.out)) : gb629 ≠ gb617)); clear HO621; clear BK617; clear HB; have HO621 := n0_; have BK617 := n1_; have HB := n2_; have BK629 := n3_; have GW629 := n4_; have GE629 := n5_; have NB617_629 := n6_; have NB629_617 := n7_; clear n0_ n1_ n2_ n3_ n4_ n5_ n6_ n7_; clear hb hbox hg; have hnb19 := NB629_617.out; have hnc19 := NB617_629.out; have hcz20_0 : w18.cell? ⟨gb629, 0, none⟩ = some (.int .u32 0) := (blk_cell BK629.out 0).trans rfl; have hcz20_1 : w18.cell? ⟨gb629, 1, none⟩ = some (.int .u16 0) := (blk_cell BK629.out 1).trans rfl; have hcz20_2 : w18.cell? ⟨gb629, 2, none⟩ = some (.int .i64 0) := (blk_cell BK629.out 2).trans rfl; have hcz20_3 : w18.cell? ⟨gb629, 3, none⟩ = some (.int .i64 0) := (blk_cell BK629.out 3).trans rfl; have hfz20_0 := blk_frozen BK629.out 0; have hfz20_1 := blk_frozen BK629.out 1; have hfz20_2 := blk_frozen BK629.out 2; have hfz20_3 := blk_frozen BK629.out 3))
      (try simp only [Act.put, List.setIfInBounds_toArray, List.set_cons_zero, List.set_cons_succ])
      go_cut [48] (fun v48 wc => ∃ (kq : Nat) (x48_10 : Bool), v48 = .bool x48_10 ∧ Aside0 (bazaarlaw15_ShopBack.j0 kq t619 (a2.extract 0 ((ji6) : Int).toNat) t618 x48_10 a1_0 a1_1 a1_2 a1_3 = some r) ∧ Aside0 (kq ≤ k) ∧ Aside0 (Kd.R k25 25 wc w.heap.size (fun _ => True) v620 t619) ∧ Aside0 (wc.heap[gb617]? = some (.cells #[.int .u32 a1_0, .int .u16 a1_1, .int .i64 a1_2, .int .i64 a1_3] 49 (0, 0))) ∧ Aside0 (wc.heap[gb629]? = some (.cells #[.int .u32 t624, .int .u16 t625, .int .i64 t626, .int .i64 t627] 49 (0, 0))) ∧ Aside0 (Below w.heap.size w wc))
      case first =>
        have H := HC11.out
        clear HC11
        by_cases c21 : t623 = 0
        · rw [if_pos c21] at H
          have c21b0 : (t623 == 0) = true := beq_iff_eq.mpr c21
          have c21b1 : (t623 != 0) = false := bne_eq_false_iff_eq.mpr c21
          clear c21
          (first | rw [c21b0] | (simp only [i64_w, i32_w]; rw [c21b0]) | skip)
          by_cases c22 : t628 = 0
          · rw [if_pos c22] at H
            have c22b0 : (t628 == 0) = true := beq_iff_eq.mpr c22
            have c22b1 : (t628 != 0) = false := bne_eq_false_iff_eq.mpr c22
            clear c22
            have H' := Aside0.mk H
            clear H
            have hnb23 := NB629_617.out
            have hnc23 := NB617_629.out
            have hcz24_0 : w18.cell? ⟨gb629, 0, none⟩ = some (.int .u32 0) := (blk_cell BK629.out 0).trans rfl
            have hcz24_1 : w18.cell? ⟨gb629, 1, none⟩ = some (.int .u16 0) := (blk_cell BK629.out 1).trans rfl
            have hcz24_2 : w18.cell? ⟨gb629, 2, none⟩ = some (.int .i64 0) := (blk_cell BK629.out 2).trans rfl
            have hcz24_3 : w18.cell? ⟨gb629, 3, none⟩ = some (.int .i64 0) := (blk_cell BK629.out 3).trans rfl
            have hfz24_0 := blk_frozen BK629.out 0
            have hfz24_1 := blk_frozen BK629.out 1
            have hfz24_2 := blk_frozen BK629.out 2
            have hfz24_3 := blk_frozen BK629.out 3
            have hcz25_0 : w18.cell? ⟨gb617, 0, none⟩ = some (.int .u32 a1_0) := (blk_cell BK617.out 0).trans rfl
            have hcz25_1 : w18.cell? ⟨gb617, 1, none⟩ = some (.int .u16 a1_1) := (blk_cell BK617.out 1).trans rfl
            have hcz25_2 : w18.cell? ⟨gb617, 2, none⟩ = some (.int .i64 a1_2) := (blk_cell BK617.out 2).trans rfl
            have hcz25_3 : w18.cell? ⟨gb617, 3, none⟩ = some (.int .i64 a1_3) := (blk_cell BK617.out 3).trans rfl
            have hfz25_0 := blk_frozen BK617.out 0
            have hfz25_1 := blk_frozen BK617.out 1
            have hfz25_2 := blk_frozen BK617.out 2
            have hfz25_3 := blk_frozen BK617.out 3
            go_wp2
            go_meet
            case rel => exact ⟨_, ((!(t624 == a1_0) || ((!(t625 == a1_1) || (!(t626 == a1_2))) || (!(t627 == a1_3))))), (by first | rfl | (simp; done) | (simp [*]; done)), H', ⟨by first | omega | exact Nat.le_refl _⟩, ⟨by (with_reducible repeat (first | apply Kd.R_alloc | apply Kd.R_drewN | apply Kd.R_drew)); exact Kd.R_mono (Kd.R_far (p := ⟨gb629, 3, none⟩) (Kd.R_far (p := ⟨gb629, 2, none⟩) (Kd.R_far (p := ⟨gb629, 1, none⟩) (Kd.R_far (p := ⟨gb629, 0, none⟩) (Kd.R_types HO621.out BK629.out (by decide)) (fun _ hk => hk.2) (.int .u32 t624)) (fun _ hk => hk.2) (.int .u16 t625)) (fun _ hk => hk.2) (.int .i64 t626)) (fun _ hk => hk.2) (.int .i64 t627)) (fun _ hk => trivial)⟩, ⟨by (with_reducible repeat (first | refine blk_drewN ?_ _ | refine blk_drew ?_ | refine blk_alloc ?_ _)); refine blk_far ?_ NB617_629.out _; (with_reducible repeat (first | refine blk_drewN ?_ _ | refine blk_drew ?_ | refine blk_alloc ?_ _)); refine blk_far ?_ NB617_629.out _; (with_reducible repeat (first | refine blk_drewN ?_ _ | refine blk_drew ?_ | refine blk_alloc ?_ _)); refine blk_far ?_ NB617_629.out _; (with_reducible repeat (first | refine blk_drewN ?_ _ | refine blk_drew ?_ | refine blk_alloc ?_ _)); refine blk_far ?_ NB617_629.out _; (with_reducible repeat (first | refine blk_drewN ?_ _ | refine blk_drew ?_ | refine blk_alloc ?_ _)); exact BK617.out⟩, ⟨by (with_reducible repeat (first | refine blk_drewN ?_ _ | refine blk_drew ?_ | refine blk_alloc ?_ _)); refine blk_put (cs := #[.int .u32 t624, .int .u16 t625, .int .i64 t626, .int .i64 0]) ?_ 3 _ rfl; (with_reducible repeat (first | refine blk_drewN ?_ _ | refine blk_drew ?_ | refine blk_alloc ?_ _)); refine blk_put (cs := #[.int .u32 t624, .int .u16 t625, .int .i64 0, .int .i64 0]) ?_ 2 _ rfl; (with_reducible repeat (first | refine blk_drewN ?_ _ | refine blk_drew ?_ | refine blk_alloc ?_ _)); refine blk_put (cs := #[.int .u32 t624, .int .u16 0, .int .i64 0, .int .i64 0]) ?_ 1 _ rfl; (with_reducible repeat (first | refine blk_drewN ?_ _ | refine blk_drew ?_ | refine blk_alloc ?_ _)); refine blk_put (cs := #[.int .u32 0, .int .u16 0, .int .i64 0, .int .i64 0]) ?_ 0 _ rfl; (with_reducible repeat (first | refine blk_drewN ?_ _ | refine blk_drew ?_ | refine blk_alloc ?_ _)); exact BK629.out⟩, ⟨by repeat (first | (with_reducible first | exact HB.out | apply below_alloc | apply pw_below_drewN | apply below_drew1 | refine below_set ?_ GE617.out | refine below_set ?_ GE629.out) | exact HB.out)⟩⟩
          · rw [if_neg c22] at H
            have c22b0 : (t628 == 0) = false := beq_eq_false_iff_ne.mpr c22
            have c22b1 : (t628 != 0) = true := bne_iff_ne.mpr c22
            rw [bazaarlaw15_ShopBack.j0.eq_def] at H
            split at H
            · cases H
            · rw [if_pos rfl] at H
              obtain rfl := Option.some.inj H
              exact absurd HTR_.out (by decide)
        · rw [if_neg c21] at H
          have c21b0 : (t623 == 0) = false := beq_eq_false_iff_ne.mpr c21
          have c21b1 : (t623 != 0) = true := bne_iff_ne.mpr c21
          (first | rw [c21b0] | (simp only [i64_w, i32_w]; rw [c21b0]) | skip)
          have H' := Aside0.mk H
          clear H
          go_wp2
          go_meet
          case rel => exact ⟨_, (false), (by first | rfl | (simp; done) | (simp [*]; done)), H', ⟨by first | omega | exact Nat.le_refl _⟩, ⟨by (with_reducible repeat (first | apply Kd.R_alloc | apply Kd.R_drewN | apply Kd.R_drew)); exact Kd.R_mono (Kd.R_far (p := ⟨gb629, 3, none⟩) (Kd.R_far (p := ⟨gb629, 2, none⟩) (Kd.R_far (p := ⟨gb629, 1, none⟩) (Kd.R_far (p := ⟨gb629, 0, none⟩) (Kd.R_types HO621.out BK629.out (by decide)) (fun _ hk => hk.2) (.int .u32 t624)) (fun _ hk => hk.2) (.int .u16 t625)) (fun _ hk => hk.2) (.int .i64 t626)) (fun _ hk => hk.2) (.int .i64 t627)) (fun _ hk => trivial)⟩, ⟨by (with_reducible repeat (first | refine blk_drewN ?_ _ | refine blk_drew ?_ | refine blk_alloc ?_ _)); refine blk_far ?_ NB617_629.out _; (with_reducible repeat (first | refine blk_drewN ?_ _ | refine blk_drew ?_ | refine blk_alloc ?_ _)); refine blk_far ?_ NB617_629.out _; (with_reducible repeat (first | refine blk_drewN ?_ _ | refine blk_drew ?_ | refine blk_alloc ?_ _)); refine blk_far ?_ NB617_629.out _; (with_reducible repeat (first | refine blk_drewN ?_ _ | refine blk_drew ?_ | refine blk_alloc ?_ _)); refine blk_far ?_ NB617_629.out _; (with_reducible repeat (first | refine blk_drewN ?_ _ | refine blk_drew ?_ | refine blk_alloc ?_ _)); exact BK617.out⟩, ⟨by (with_reducible repeat (first | refine blk_drewN ?_ _ | refine blk_drew ?_ | refine blk_alloc ?_ _)); refine blk_put (cs := #[.int .u32 t624, .int .u16 t625, .int .i64 t626, .int .i64 0]) ?_ 3 _ rfl; (with_reducible repeat (first | refine blk_drewN ?_ _ | refine blk_drew ?_ | refine blk_alloc ?_ _)); refine blk_put (cs := #[.int .u32 t624, .int .u16 t625, .int .i64 0, .int .i64 0]) ?_ 2 _ rfl; (with_reducible repeat (first | refine blk_drewN ?_ _ | refine blk_drew ?_ | refine blk_alloc ?_ _)); refine blk_put (cs := #[.int .u32 t624, .int .u16 0, .int .i64 0, .int .i64 0]) ?_ 1 _ rfl; (with_reducible repeat (first | refine blk_drewN ?_ _ | refine blk_drew ?_ | refine blk_alloc ?_ _)); refine blk_put (cs := #[.int .u32 0, .int .u16 0, .int .i64 0, .int .i64 0]) ?_ 0 _ rfl; (with_reducible repeat (first | refine blk_drewN ?_ _ | refine blk_drew ?_ | refine blk_alloc ?_ _)); exact BK629.out⟩, ⟨by repeat (first | (with_reducible first | exact HB.out | apply below_alloc | apply pw_below_drewN | apply below_drew1 | refine below_set ?_ GE617.out | refine below_set ?_ GE629.out) | exact HB.out)⟩⟩
      case rest =>
        clear HC11
        try clear c1
        try clear c2
        try clear p2
        try clear c3
        try clear c7
        try clear c7b0
        try clear c7b1
        try clear c8
        try clear c8b0
        try clear c8b1
        try clear c14
        try clear c19
        try clear c21
        try clear c21b0
        try clear c21b1
        try clear c22
        try clear c22b0
        try clear c22b1
        try clear c23
        try clear hcz15_0
        try clear hcz15_1
        try clear hcz15_2
        try clear hcz15_3
        try clear hcz20_0
        try clear hcz20_1
        try clear hcz20_2
        try clear hcz20_3
        try clear hcz24_0
        try clear hcz24_1
        try clear hcz24_2
        try clear hcz24_3
        try clear hcz25_0
        try clear hcz25_1
        try clear hcz25_2
        try clear hcz25_3
        try clear hfz15_0
        try clear hfz15_1
        try clear hfz15_2
        try clear hfz15_3
        try clear hfz20_0
        try clear hfz20_1
        try clear hfz20_2
        try clear hfz20_3
        try clear hfz24_0
        try clear hfz24_1
        try clear hfz24_2
        try clear hfz24_3
        try clear hfz25_0
        try clear hfz25_1
        try clear hfz25_2
        try clear hfz25_3
        obtain ⟨kq, x48_10, rfl, HA, HJ10, HO_0, BK617, BK629, HB⟩ := hcut
        cases kq with
        | zero => exact absurd HA.out (by simp [bazaarlaw15_ShopBack.j0])
        | succ kj10 =>
          have H := HA.out
          clear HA
          simp only [bazaarlaw15_ShopBack.j0] at H
          by_cases c26 : x48_10 = true
          · subst c26
            have H1 : (some false) = some r := by rw [if_pos rfl] at H; exact H
            clear H
            have H := H1
            clear H1
            obtain rfl := Option.some.inj H
            exact absurd HTR_.out (by decide)
          · replace c26 := Bool.eq_false_iff.mpr c26
            subst c26
            have H1 : ((shop_Parse.f (a2.extract 0 ((ji6) : Int).toNat)).bind fun bt630 => ((shop_Bytes.f bt630.1 bt630.2.1 bt630.2.2.1 bt630.2.2.2.1).bind fun bt636 => (if bt630.2.2.2.2 = 0 then (if bt636.2 = 0 then (bazaarlaw15_ShopBack.j1 kj10 t619 t618 (bt636.1.toList != (a2.extract 0 ((ji6) : Int).toNat).toList) a1_0 a1_1 a1_2 a1_3) else (bazaarlaw15_ShopBack.j1 kj10 t619 t618 true a1_0 a1_1 a1_2 a1_3)) else (bazaarlaw15_ShopBack.j1 kj10 t619 t618 false a1_0 a1_1 a1_2 a1_3)))) = some r := by rw [if_neg (show ¬ (false = true) by decide)] at H; exact H
            clear H
            have H := H1
            clear H1
            replace H := Option.bind_eq_some_iff.mp H
            obtain ⟨⟨t630, t631, t632, t633, t634⟩, A270, H⟩ := H
            replace H : ((shop_Bytes.f t630 t631 t632 t633).bind fun bt636 => (if t634 = 0 then (if bt636.2 = 0 then (bazaarlaw15_ShopBack.j1 kj10 t619 t618 (bt636.1.toList != (a2.extract 0 ((ji6) : Int).toNat).toList) a1_0 a1_1 a1_2 a1_3) else (bazaarlaw15_ShopBack.j1 kj10 t619 t618 true a1_0 a1_1 a1_2 a1_3)) else (bazaarlaw15_ShopBack.j1 kj10 t619 t618 false a1_0 a1_1 a1_2 a1_3))) = some r := H
            have A27 := Aside0.mk A270
            clear A270
            replace H := Option.bind_eq_some_iff.mp H
            obtain ⟨⟨t636, t637⟩, A280, H⟩ := H
            replace H : (if t634 = 0 then (if t637 = 0 then (bazaarlaw15_ShopBack.j1 kj10 t619 t618 (t636.toList != (a2.extract 0 ((ji6) : Int).toNat).toList) a1_0 a1_1 a1_2 a1_3) else (bazaarlaw15_ShopBack.j1 kj10 t619 t618 true a1_0 a1_1 a1_2 a1_3)) else (bazaarlaw15_ShopBack.j1 kj10 t619 t618 false a1_0 a1_1 a1_2 a1_3)) = some r := H
            have A28 := Aside0.mk A280
            clear A280
            have HC29 := Aside0.mk H
            clear H
            go_upto_region 10 with (first | ((with_reducible refine gate_callee (f := 39) rfl ?_); refine goesL_ (some 51) rfl rfl Tryd.func39 (by kernel_rfl) rfl #[.string (a2.extract 0 ((ji6) : Int).toNat)] rfl (by (try simp only [List.map_toArray, List.map_cons, List.map_nil]); first | done | (simp only [hji6]; rfl) | rfl | (simp only [List.length_drop, List.length_take]; rfl)) ?_; (with_reducible refine (shop_Parse.calls (a2.extract 0 ((ji6) : Int).toNat) t630 t631 t632 t633 t634 _ ?side1 A27.out).mono ?_); (case side1 => exact Laid_below HLD.out (by repeat (first | (with_reducible first | exact HB.out | apply below_alloc | apply pw_below_drewN | apply below_drew1 | refine below_set ?_ GE617.out | refine below_set ?_ GE629.out) | exact HB.out))); rintro e w30 ⟨rfl, hb⟩; refine ⟨_, rfl, ?_⟩; have n0_ := Aside0.mk (Kd.R_below (by (with_reducible repeat (first | apply Kd.R_alloc | apply Kd.R_drewN | apply Kd.R_drew)); exact HO_0.out) hb); have n1_ := Aside0.mk (blk_below (g := gb617) (o := .cells #[.int .u32 a1_0, .int .u16 a1_1, .int .i64 a1_2, .int .i64 a1_3] 49 (0, 0)) (by (with_reducible repeat (first | refine blk_drewN ?_ _ | refine blk_drew ?_ | refine blk_alloc ?_ _)); exact BK617.out) hb); have n2_ := Aside0.mk (blk_below (g := gb629) (o := .cells #[.int .u32 t624, .int .u16 t625, .int .i64 t626, .int .i64 t627] 49 (0, 0)) (by (with_reducible repeat (first | refine blk_drewN ?_ _ | refine blk_drew ?_ | refine blk_alloc ?_ _)); exact BK629.out) hb); have n3_ := Aside0.mk (below_step (by repeat (first | (with_reducible first | exact HB.out | apply below_alloc | apply pw_below_drewN | apply below_drew1 | refine below_set ?_ GE617.out | refine below_set ?_ GE629.out) | exact HB.out)) hb); clear HO_0; clear BK617; clear BK629; clear HB; have HO_0 := n0_; have BK617 := n1_; have BK629 := n2_; have HB := n3_; clear n0_ n1_ n2_ n3_; (try clear hb); (try clear hb2); (try clear hk); (try clear hi)) | ((with_reducible refine gate_dst (N := 12) rfl ?_); refine box_event ?hg (N := 12) ?hd (cs := #[.int .u32 0, .int .u16 0, .int .i64 0, .int .i64 0]) (t := 49) ?hr ?_; (case hd => rfl); (case hg => rfl); (case hr => first | (go_simp; done) | (go_simp; rfl)); intro gb635 hg w31 hbox hb; have n0_ := Aside0.mk (Kd.R_below (by (with_reducible repeat (first | apply Kd.R_alloc | apply Kd.R_drewN | apply Kd.R_drew)); exact HO_0.out) hb); have n1_ := Aside0.mk (blk_below (g := gb617) (o := .cells #[.int .u32 a1_0, .int .u16 a1_1, .int .i64 a1_2, .int .i64 a1_3] 49 (0, 0)) (by (with_reducible repeat (first | refine blk_drewN ?_ _ | refine blk_drew ?_ | refine blk_alloc ?_ _)); exact BK617.out) hb); have n2_ := Aside0.mk (blk_below (g := gb629) (o := .cells #[.int .u32 t624, .int .u16 t625, .int .i64 t626, .int .i64 t627] 49 (0, 0)) (by (with_reducible repeat (first | refine blk_drewN ?_ _ | refine blk_drew ?_ | refine blk_alloc ?_ _)); exact BK629.out) hb); have n3_ := Aside0.mk (below_step (by repeat (first | (with_reducible first | exact HB.out | apply below_alloc | apply pw_below_drewN | apply below_drew1 | refine below_set ?_ GE617.out | refine below_set ?_ GE629.out) | exact HB.out)) hb); have n4_ := Aside0.mk (hbox); have n5_ := Aside0.mk ((by rw [hg]; exact (below_size (by repeat (first | (with_reducible first | exact HB.out | apply below_alloc | apply pw_below_drewN | apply below_drew1 | refine below_set ?_ GE617.out | refine below_set ?_ GE629.out) | exact HB.out))) : w.heap.size ≤ gb635)); have n6_ := Aside0.mk ((by rw [hg]; exact (below_size (by repeat (first | (with_reducible first | exact HB.out | apply below_alloc | apply pw_below_drewN | apply below_drew1 | refine below_set ?_ GE617.out | refine below_set ?_ GE629.out) | exact HB.out))) : w.heap.size ≤ gb635)); have n7_ := Aside0.mk ((by rw [hg]; exact Nat.ne_of_lt (blk_lt (g := gb617) (o := .cells #[.int .u32 a1_0, .int .u16 a1_1, .int .i64 a1_2, .int .i64 a1_3] 49 (0, 0)) (by (with_reducible repeat (first | refine blk_drewN ?_ _ | refine blk_drew ?_ | refine blk_alloc ?_ _)); exact BK617.out)) : gb617 ≠ gb635)); have n8_ := Aside0.mk ((by rw [hg]; exact Nat.ne_of_gt (blk_lt (g := gb617) (o := .cells #[.int .u32 a1_0, .int .u16 a1_1, .int .i64 a1_2, .int .i64 a1_3] 49 (0, 0)) (by (with_reducible repeat (first | refine blk_drewN ?_ _ | refine blk_drew ?_ | refine blk_alloc ?_ _)); exact BK617.out)) : gb635 ≠ gb617)); have n9_ := Aside0.mk ((by rw [hg]; exact Nat.ne_of_lt (blk_lt (g := gb629) (o := .cells #[.int .u32 t624, .int .u16 t625, .int .i64 t626, .int .i64 t627] 49 (0, 0)) (by (with_reducible repeat (first | refine blk_drewN ?_ _ | refine blk_drew ?_ | refine blk_alloc ?_ _)); exact BK629.out)) : gb629 ≠ gb635)); have n10_ := Aside0.mk ((by rw [hg]; exact Nat.ne_of_gt (blk_lt (g := gb629) (o := .cells #[.int .u32 t624, .int .u16 t625, .int .i64 t626, .int .i64 t627] 49 (0, 0)) (by (with_reducible repeat (first | refine blk_drewN ?_ _ | refine blk_drew ?_ | refine blk_alloc ?_ _)); exact BK629.out)) : gb635 ≠ gb629)); clear HO_0; clear BK617; clear BK629; clear HB; have HO_0 := n0_; have BK617 := n1_; have BK629 := n2_; have HB := n3_; have BK635 := n4_; have GW635 := n5_; have GE635 := n6_; have NB617_635 := n7_; have NB635_617 := n8_; have NB629_635 := n9_; have NB635_629 := n10_; clear n0_ n1_ n2_ n3_ n4_ n5_ n6_ n7_ n8_ n9_ n10_; clear hb hbox hg; have hnb32 := NB635_617.out; have hnc32 := NB617_635.out; have hnb33 := NB635_629.out; have hnc33 := NB629_635.out; have hcz34_0 : w31.cell? ⟨gb635, 0, none⟩ = some (.int .u32 0) := (blk_cell BK635.out 0).trans rfl; have hcz34_1 : w31.cell? ⟨gb635, 1, none⟩ = some (.int .u16 0) := (blk_cell BK635.out 1).trans rfl; have hcz34_2 : w31.cell? ⟨gb635, 2, none⟩ = some (.int .i64 0) := (blk_cell BK635.out 2).trans rfl; have hcz34_3 : w31.cell? ⟨gb635, 3, none⟩ = some (.int .i64 0) := (blk_cell BK635.out 3).trans rfl; have hfz34_0 := blk_frozen BK635.out 0; have hfz34_1 := blk_frozen BK635.out 1; have hfz34_2 := blk_frozen BK635.out 2; have hfz34_3 := blk_frozen BK635.out 3) | ((with_reducible refine gate_callee (f := 37) rfl ?_); refine goesL_ (some 56) rfl rfl Tryd.func37 (by kernel_rfl) rfl #[.agg #[.int .u32 t630, .int .u16 t631, .int .i64 t632, .int .i64 t633]] rfl (by (try simp only [List.map_toArray, List.map_cons, List.map_nil]); first | done | rfl | (simp only [List.length_drop, List.length_take]; rfl)) ?_; (with_reducible refine (shop_Bytes.calls t630 t631 t632 t633 t636 t637 _ ?side1 A28.out).mono ?_); (case side1 => exact Laid_below HLD.out (by repeat (first | (with_reducible first | exact HB.out | apply below_alloc | apply pw_below_drewN | apply below_drew1 | refine below_set ?_ GE617.out | refine below_set ?_ GE629.out | refine below_set ?_ GE635.out) | exact HB.out))); rintro e w35 ⟨rfl, hb⟩; refine ⟨_, rfl, ?_⟩; have n0_ := Aside0.mk (Kd.R_below (by (with_reducible repeat (first | apply Kd.R_alloc | apply Kd.R_drewN | apply Kd.R_drew)); exact (Kd.R_mono (Kd.R_far (p := ⟨gb635, 3, none⟩) (Kd.R_far (p := ⟨gb635, 2, none⟩) (Kd.R_far (p := ⟨gb635, 1, none⟩) (Kd.R_far (p := ⟨gb635, 0, none⟩) (Kd.R_types HO_0.out BK635.out (by decide)) (fun _ hk => hk.2) (.int .u32 t630)) (fun _ hk => hk.2) (.int .u16 t631)) (fun _ hk => hk.2) (.int .i64 t632)) (fun _ hk => hk.2) (.int .i64 t633)) (fun _ h_ => h_.1))) hb); have n1_ := Aside0.mk (blk_below (g := gb617) (o := .cells #[.int .u32 a1_0, .int .u16 a1_1, .int .i64 a1_2, .int .i64 a1_3] 49 (0, 0)) (by (with_reducible repeat (first | refine blk_drewN ?_ _ | refine blk_drew ?_ | refine blk_alloc ?_ _)); refine blk_far ?_ NB617_635.out _; (with_reducible repeat (first | refine blk_drewN ?_ _ | refine blk_drew ?_ | refine blk_alloc ?_ _)); refine blk_far ?_ NB617_635.out _; (with_reducible repeat (first | refine blk_drewN ?_ _ | refine blk_drew ?_ | refine blk_alloc ?_ _)); refine blk_far ?_ NB617_635.out _; (with_reducible repeat (first | refine blk_drewN ?_ _ | refine blk_drew ?_ | refine blk_alloc ?_ _)); refine blk_far ?_ NB617_635.out _; (with_reducible repeat (first | refine blk_drewN ?_ _ | refine blk_drew ?_ | refine blk_alloc ?_ _)); exact BK617.out) hb); have n2_ := Aside0.mk (blk_below (g := gb629) (o := .cells #[.int .u32 t624, .int .u16 t625, .int .i64 t626, .int .i64 t627] 49 (0, 0)) (by (with_reducible repeat (first | refine blk_drewN ?_ _ | refine blk_drew ?_ | refine blk_alloc ?_ _)); refine blk_far ?_ NB629_635.out _; (with_reducible repeat (first | refine blk_drewN ?_ _ | refine blk_drew ?_ | refine blk_alloc ?_ _)); refine blk_far ?_ NB629_635.out _; (with_reducible repeat (first | refine blk_drewN ?_ _ | refine blk_drew ?_ | refine blk_alloc ?_ _)); refine blk_far ?_ NB629_635.out _; (with_reducible repeat (first | refine blk_drewN ?_ _ | refine blk_drew ?_ | refine blk_alloc ?_ _)); refine blk_far ?_ NB629_635.out _; (with_reducible repeat (first | refine blk_drewN ?_ _ | refine blk_drew ?_ | refine blk_alloc ?_ _)); exact BK629.out) hb); have n3_ := Aside0.mk (blk_below (g := gb635) (o := .cells #[.int .u32 t630, .int .u16 t631, .int .i64 t632, .int .i64 t633] 49 (0, 0)) (by (with_reducible repeat (first | refine blk_drewN ?_ _ | refine blk_drew ?_ | refine blk_alloc ?_ _)); refine blk_put (cs := #[.int .u32 t630, .int .u16 t631, .int .i64 t632, .int .i64 0]) ?_ 3 _ rfl; (with_reducible repeat (first | refine blk_drewN ?_ _ | refine blk_drew ?_ | refine blk_alloc ?_ _)); refine blk_put (cs := #[.int .u32 t630, .int .u16 t631, .int .i64 0, .int .i64 0]) ?_ 2 _ rfl; (with_reducible repeat (first | refine blk_drewN ?_ _ | refine blk_drew ?_ | refine blk_alloc ?_ _)); refine blk_put (cs := #[.int .u32 t630, .int .u16 0, .int .i64 0, .int .i64 0]) ?_ 1 _ rfl; (with_reducible repeat (first | refine blk_drewN ?_ _ | refine blk_drew ?_ | refine blk_alloc ?_ _)); refine blk_put (cs := #[.int .u32 0, .int .u16 0, .int .i64 0, .int .i64 0]) ?_ 0 _ rfl; (with_reducible repeat (first | refine blk_drewN ?_ _ | refine blk_drew ?_ | refine blk_alloc ?_ _)); exact BK635.out) hb); have n4_ := Aside0.mk (below_step (by repeat (first | (with_reducible first | exact HB.out | apply below_alloc | apply pw_below_drewN | apply below_drew1 | refine below_set ?_ GE617.out | refine below_set ?_ GE629.out | refine below_set ?_ GE635.out) | exact HB.out)) hb); clear HO_0; clear BK617; clear BK629; clear BK635; clear HB; have HO_0 := n0_; have BK617 := n1_; have BK629 := n2_; have BK635 := n3_; have HB := n4_; clear n0_ n1_ n2_ n3_ n4_; (try clear hb); (try clear hb2); (try clear hk); (try clear hi)))
            (try simp only [Act.put, List.setIfInBounds_toArray, List.set_cons_zero, List.set_cons_succ])
            go_cut [69] (fun v69 wc => ∃ (kq : Nat) (x69_28 : Bool), v69 = .bool x69_28 ∧ Aside0 (bazaarlaw15_ShopBack.j1 kq t619 t618 x69_28 a1_0 a1_1 a1_2 a1_3 = some r) ∧ Aside0 (kq ≤ kj10) ∧ Aside0 (Kd.R k25 25 wc w.heap.size (fun _ => True) v620 t619) ∧ Aside0 (wc.heap[gb617]? = some (.cells #[.int .u32 a1_0, .int .u16 a1_1, .int .i64 a1_2, .int .i64 a1_3] 49 (0, 0))) ∧ Aside0 (wc.heap[gb629]? = some (.cells #[.int .u32 t624, .int .u16 t625, .int .i64 t626, .int .i64 t627] 49 (0, 0))) ∧ Aside0 (wc.heap[gb635]? = some (.cells #[.int .u32 t630, .int .u16 t631, .int .i64 t632, .int .i64 t633] 49 (0, 0))) ∧ Aside0 (Below w.heap.size w wc))
            case first =>
              have H := HC29.out
              clear HC29
              by_cases c36 : t634 = 0
              · rw [if_pos c36] at H
                have c36b0 : (t634 == 0) = true := beq_iff_eq.mpr c36
                have c36b1 : (t634 != 0) = false := bne_eq_false_iff_eq.mpr c36
                clear c36
                (first | rw [c36b0] | (simp only [i64_w, i32_w]; rw [c36b0]) | skip)
                by_cases c37 : t637 = 0
                · rw [if_pos c37] at H
                  have c37b0 : (t637 == 0) = true := beq_iff_eq.mpr c37
                  have c37b1 : (t637 != 0) = false := bne_eq_false_iff_eq.mpr c37
                  clear c37
                  have H' := Aside0.mk H
                  clear H
                  go_wp2
                  go_meet
                  case rel => exact ⟨_, ((t636.toList != (a2.extract 0 ((ji6) : Int).toNat).toList)), (by first | rfl | (simp; done) | (simp only [← hji6] <;> (first | rfl | simp)) | (simp [*]; done)), H', ⟨by have := HJ10.out; first | omega | exact Nat.le_refl _⟩, ⟨by (with_reducible repeat (first | apply Kd.R_alloc | apply Kd.R_drewN | apply Kd.R_drew)); exact HO_0.out⟩, ⟨by (with_reducible repeat (first | refine blk_drewN ?_ _ | refine blk_drew ?_ | refine blk_alloc ?_ _)); exact BK617.out⟩, ⟨by (with_reducible repeat (first | refine blk_drewN ?_ _ | refine blk_drew ?_ | refine blk_alloc ?_ _)); exact BK629.out⟩, ⟨by (with_reducible repeat (first | refine blk_drewN ?_ _ | refine blk_drew ?_ | refine blk_alloc ?_ _)); exact BK635.out⟩, ⟨by repeat (first | (with_reducible first | exact HB.out | apply below_alloc | apply pw_below_drewN | apply below_drew1 | refine below_set ?_ GE617.out | refine below_set ?_ GE629.out | refine below_set ?_ GE635.out) | exact HB.out)⟩⟩
                · rw [if_neg c37] at H
                  have c37b0 : (t637 == 0) = false := beq_eq_false_iff_ne.mpr c37
                  have c37b1 : (t637 != 0) = true := bne_iff_ne.mpr c37
                  rw [bazaarlaw15_ShopBack.j1.eq_def] at H
                  split at H
                  · cases H
                  · rw [if_pos rfl] at H
                    obtain rfl := Option.some.inj H
                    exact absurd HTR_.out (by decide)
              · rw [if_neg c36] at H
                have c36b0 : (t634 == 0) = false := beq_eq_false_iff_ne.mpr c36
                have c36b1 : (t634 != 0) = true := bne_iff_ne.mpr c36
                (first | rw [c36b0] | (simp only [i64_w, i32_w]; rw [c36b0]) | skip)
                have H' := Aside0.mk H
                clear H
                go_wp2
                go_meet
                case rel => exact ⟨_, (false), (by first | rfl | (simp; done) | (simp [*]; done)), H', ⟨by have := HJ10.out; first | omega | exact Nat.le_refl _⟩, ⟨by (with_reducible repeat (first | apply Kd.R_alloc | apply Kd.R_drewN | apply Kd.R_drew)); exact HO_0.out⟩, ⟨by (with_reducible repeat (first | refine blk_drewN ?_ _ | refine blk_drew ?_ | refine blk_alloc ?_ _)); exact BK617.out⟩, ⟨by (with_reducible repeat (first | refine blk_drewN ?_ _ | refine blk_drew ?_ | refine blk_alloc ?_ _)); exact BK629.out⟩, ⟨by (with_reducible repeat (first | refine blk_drewN ?_ _ | refine blk_drew ?_ | refine blk_alloc ?_ _)); exact BK635.out⟩, ⟨by repeat (first | (with_reducible first | exact HB.out | apply below_alloc | apply pw_below_drewN | apply below_drew1 | refine below_set ?_ GE617.out | refine below_set ?_ GE629.out | refine below_set ?_ GE635.out) | exact HB.out)⟩⟩
            case rest =>
              clear HC29
              try clear c1
              try clear c2
              try clear p2
              try clear c3
              try clear c7
              try clear c7b0
              try clear c7b1
              try clear c8
              try clear c8b0
              try clear c8b1
              try clear c14
              try clear c19
              try clear c21
              try clear c21b0
              try clear c21b1
              try clear c22
              try clear c22b0
              try clear c22b1
              try clear c23
              try clear c26
              try clear c29
              try clear c30
              try clear c32
              try clear c33
              try clear c36
              try clear c36b0
              try clear c36b1
              try clear c37
              try clear c37b0
              try clear c37b1
              try clear hcz15_0
              try clear hcz15_1
              try clear hcz15_2
              try clear hcz15_3
              try clear hcz20_0
              try clear hcz20_1
              try clear hcz20_2
              try clear hcz20_3
              try clear hcz24_0
              try clear hcz24_1
              try clear hcz24_2
              try clear hcz24_3
              try clear hcz25_0
              try clear hcz25_1
              try clear hcz25_2
              try clear hcz25_3
              try clear hcz34_0
              try clear hcz34_1
              try clear hcz34_2
              try clear hcz34_3
              try clear hfz15_0
              try clear hfz15_1
              try clear hfz15_2
              try clear hfz15_3
              try clear hfz20_0
              try clear hfz20_1
              try clear hfz20_2
              try clear hfz20_3
              try clear hfz24_0
              try clear hfz24_1
              try clear hfz24_2
              try clear hfz24_3
              try clear hfz25_0
              try clear hfz25_1
              try clear hfz25_2
              try clear hfz25_3
              try clear hfz34_0
              try clear hfz34_1
              try clear hfz34_2
              try clear hfz34_3
              try clear p2
              obtain ⟨kq, x69_28, rfl, HA, HJ28, HO_0, BK617, BK629, BK635, HB⟩ := hcut
              cases kq with
              | zero => exact absurd HA.out (by simp [bazaarlaw15_ShopBack.j1])
              | succ kj28 =>
                have H := HA.out
                clear HA
                simp only [bazaarlaw15_ShopBack.j1] at H
                by_cases c38 : x69_28 = true
                · subst c38
                  have H1 : (some false) = some r := by rw [if_pos rfl] at H; exact H
                  clear H
                  have H := H1
                  clear H1
                  obtain rfl := Option.some.inj H
                  exact absurd HTR_.out (by decide)
                · replace c38 := Bool.eq_false_iff.mpr c38
                  subst c38
                  have H1 : ((shop_List.f t619 a1_0 a1_1 a1_2 a1_3).bind fun bt638 => ((shop_Cancel.f bt638.1 a1_0 a1_1 a1_2 a1_3).bind fun bt642 => (if t618 = true then (if bt638.2 = 0 then (if bt642.2 = 0 then ((bazaarref12_Same.f kj28 bt642.1 t619).bind fun t646 => (some t646)) else (some false)) else (some true)) else (some false)))) = some r := by rw [if_neg (show ¬ (false = true) by decide)] at H; exact H
                  clear H
                  have H := H1
                  clear H1
                  replace H := Option.bind_eq_some_iff.mp H
                  obtain ⟨⟨t638, t641⟩, A390, H⟩ := H
                  replace H : ((shop_Cancel.f t638 a1_0 a1_1 a1_2 a1_3).bind fun bt642 => (if t618 = true then (if t641 = 0 then (if bt642.2 = 0 then ((bazaarref12_Same.f kj28 bt642.1 t619).bind fun t646 => (some t646)) else (some false)) else (some true)) else (some false))) = some r := H
                  have A39 := Aside0.mk A390
                  clear A390
                  replace H := Option.bind_eq_some_iff.mp H
                  obtain ⟨⟨t642, t645⟩, A400, H⟩ := H
                  replace H : (if t618 = true then (if t641 = 0 then (if t645 = 0 then ((bazaarref12_Same.f kj28 t642 t619).bind fun t646 => (some t646)) else (some false)) else (some true)) else (some false)) = some r := H
                  have A40 := Aside0.mk A400
                  clear A400
                  by_cases c41 : t618 = true
                  · subst c41
                    have H1 : (if t641 = 0 then (if t645 = 0 then ((bazaarref12_Same.f kj28 t642 t619).bind fun t646 => (some t646)) else (some false)) else (some true)) = some r := by rw [if_pos rfl] at H; exact H
                    clear H
                    have H := H1
                    clear H1
                    by_cases c42 : t641 = 0
                    · rw [if_pos c42] at H
                      have c42b0 : (t641 == 0) = true := beq_iff_eq.mpr c42
                      have c42b1 : (t641 != 0) = false := bne_eq_false_iff_eq.mpr c42
                      clear c42
                      by_cases c43 : t645 = 0
                      · rw [if_pos c43] at H
                        have c43b0 : (t645 == 0) = true := beq_iff_eq.mpr c43
                        have c43b1 : (t645 != 0) = false := bne_eq_false_iff_eq.mpr c43
                        clear c43
                        replace H := Option.bind_eq_some_iff.mp H
                        obtain ⟨t646, A440, H⟩ := H
                        replace H : (some t646) = some r := H
                        have A44 := Aside0.mk A440
                        clear A440
                        obtain rfl := Option.some.inj H
                        have hnb45 := NB617_629.out
                        have hnc45 := NB629_617.out
                        have hnb46 := NB617_635.out
                        have hnc46 := NB635_617.out
                        have hcz47_0 : wc.cell? ⟨gb617, 0, none⟩ = some (.int .u32 a1_0) := (blk_cell BK617.out 0).trans rfl
                        have hcz47_1 : wc.cell? ⟨gb617, 1, none⟩ = some (.int .u16 a1_1) := (blk_cell BK617.out 1).trans rfl
                        have hcz47_2 : wc.cell? ⟨gb617, 2, none⟩ = some (.int .i64 a1_2) := (blk_cell BK617.out 2).trans rfl
                        have hcz47_3 : wc.cell? ⟨gb617, 3, none⟩ = some (.int .i64 a1_3) := (blk_cell BK617.out 3).trans rfl
                        have hfz47_0 := blk_frozen BK617.out 0
                        have hfz47_1 := blk_frozen BK617.out 1
                        have hfz47_2 := blk_frozen BK617.out 2
                        have hfz47_3 := blk_frozen BK617.out 3
                        obtain ⟨Ao48, co48, eo48⟩ := Kd.R_slice HO_0.out
                        subst eo48
                        go_wp2_with (first | ((with_reducible refine gate_callee (f := 32) rfl ?_); refine goesL_ (some 73) rfl rfl Tryd.func32 (by kernel_rfl) rfl #[.slice Ao48 t619.length co48, .agg #[.int .u32 a1_0, .int .u16 a1_1, .int .i64 a1_2, .int .i64 a1_3]] rfl (by (try simp only [List.map_toArray, List.map_cons, List.map_nil]); first | done | rfl | (simp only [List.length_drop, List.length_take]; rfl)) ?_; (with_reducible refine (shop_List.calls _ _ t619 a1_0 a1_1 a1_2 a1_3 t638 t641 _ ?side1 ?side2 ?side3 A39.out).mono ?_); (case side1 => exact Laid_below HLD.out (by repeat (first | (with_reducible first | exact HB.out | apply below_alloc | apply pw_below_drewN | apply below_drew1 | refine below_set ?_ GE617.out | refine below_set ?_ GE629.out | refine below_set ?_ GE635.out) | exact HB.out))); (case side2 => repeat (first | exact (Kd.R_reads' HO_0.out).2.2 | (with_reducible refine Kd.C_alloc ?_ _) | (with_reducible refine Kd.C_drewN ?_ _) | (with_reducible refine Kd.C_drew ?_))); (case side3 => exact (Kd.R_reads' HO_0.out).2.1); rintro e w49 ⟨v639, rfl, ho0, hb⟩; refine ⟨_, rfl, ?_⟩; have n0_ := Aside0.mk (Kd.R_elder' (by (with_reducible repeat (first | apply Kd.R_alloc | apply Kd.R_drewN | apply Kd.R_drew)); exact HO_0.out) (Kd.R_base ho0) hb); have n1_ := Aside0.mk (Kd.R_lower (Kd.R_new' ho0 (Kd.R_lt (by (with_reducible repeat (first | apply Kd.R_alloc | apply Kd.R_drewN | apply Kd.R_drew)); exact HO_0.out))) (below_size (by repeat (first | (with_reducible first | exact HB.out | apply below_alloc | apply pw_below_drewN | apply below_drew1 | refine below_set ?_ GE617.out | refine below_set ?_ GE629.out | refine below_set ?_ GE635.out) | exact HB.out)))); have n2_ := Aside0.mk (blk_below (g := gb617) (o := .cells #[.int .u32 a1_0, .int .u16 a1_1, .int .i64 a1_2, .int .i64 a1_3] 49 (0, 0)) (by (with_reducible repeat (first | refine blk_drewN ?_ _ | refine blk_drew ?_ | refine blk_alloc ?_ _)); exact BK617.out) hb); have n3_ := Aside0.mk (blk_below (g := gb629) (o := .cells #[.int .u32 t624, .int .u16 t625, .int .i64 t626, .int .i64 t627] 49 (0, 0)) (by (with_reducible repeat (first | refine blk_drewN ?_ _ | refine blk_drew ?_ | refine blk_alloc ?_ _)); exact BK629.out) hb); have n4_ := Aside0.mk (blk_below (g := gb635) (o := .cells #[.int .u32 t630, .int .u16 t631, .int .i64 t632, .int .i64 t633] 49 (0, 0)) (by (with_reducible repeat (first | refine blk_drewN ?_ _ | refine blk_drew ?_ | refine blk_alloc ?_ _)); exact BK635.out) hb); have n5_ := Aside0.mk (below_step (by repeat (first | (with_reducible first | exact HB.out | apply below_alloc | apply pw_below_drewN | apply below_drew1 | refine below_set ?_ GE617.out | refine below_set ?_ GE629.out | refine below_set ?_ GE635.out) | exact HB.out)) hb); clear HO_0; clear BK617; clear BK629; clear BK635; clear HB; have HO_0 := n0_; have HO640 := n1_; have BK617 := n2_; have BK629 := n3_; have BK635 := n4_; have HB := n5_; clear n0_ n1_ n2_ n3_ n4_ n5_; (try clear hb); (try clear hb2); (try clear hk); (try clear hi); (try clear ho0); have hcz50_0 : w49.cell? ⟨gb617, 0, none⟩ = some (.int .u32 a1_0) := (blk_cell BK617.out 0).trans rfl; have hcz50_1 : w49.cell? ⟨gb617, 1, none⟩ = some (.int .u16 a1_1) := (blk_cell BK617.out 1).trans rfl; have hcz50_2 : w49.cell? ⟨gb617, 2, none⟩ = some (.int .i64 a1_2) := (blk_cell BK617.out 2).trans rfl; have hcz50_3 : w49.cell? ⟨gb617, 3, none⟩ = some (.int .i64 a1_3) := (blk_cell BK617.out 3).trans rfl; have hfz50_0 := blk_frozen BK617.out 0; have hfz50_1 := blk_frozen BK617.out 1; have hfz50_2 := blk_frozen BK617.out 2; have hfz50_3 := blk_frozen BK617.out 3; obtain ⟨Ao51, co51, eo51⟩ := Kd.R_slice HO640.out; subst eo51) | ((with_reducible refine gate_callee (f := 34) rfl ?_); refine goesL_ (some 79) rfl rfl Tryd.func34 (by kernel_rfl) rfl #[.slice Ao51 t638.length co51, .agg #[.int .u32 a1_0, .int .u16 a1_1, .int .i64 a1_2, .int .i64 a1_3]] rfl (by (try simp only [List.map_toArray, List.map_cons, List.map_nil]); first | done | rfl | (simp only [List.length_drop, List.length_take]; rfl)) ?_; (with_reducible refine (shop_Cancel.calls _ _ t638 a1_0 a1_1 a1_2 a1_3 t642 t645 _ ?side1 ?side2 ?side3 A40.out).mono ?_); (case side1 => exact Laid_below HLD.out (by repeat (first | (with_reducible first | exact HB.out | apply below_alloc | apply pw_below_drewN | apply below_drew1 | refine below_set ?_ GE617.out | refine below_set ?_ GE629.out | refine below_set ?_ GE635.out) | exact HB.out))); (case side2 => repeat (first | exact (Kd.R_reads' HO640.out).2.2 | (with_reducible refine Kd.C_alloc ?_ _) | (with_reducible refine Kd.C_drewN ?_ _) | (with_reducible refine Kd.C_drew ?_))); (case side3 => exact (Kd.R_reads' HO640.out).2.1); rintro e w52 ⟨v643, rfl, ho0, hb⟩; refine ⟨_, rfl, ?_⟩; have n0_ := Aside0.mk (Kd.R_elder' (by (with_reducible repeat (first | apply Kd.R_alloc | apply Kd.R_drewN | apply Kd.R_drew)); exact HO_0.out) (Kd.R_base ho0) hb); have n1_ := Aside0.mk (Kd.R_elder' (by (with_reducible repeat (first | apply Kd.R_alloc | apply Kd.R_drewN | apply Kd.R_drew)); exact HO640.out) (Kd.R_base ho0) hb); have n2_ := Aside0.mk (Kd.R_lower (Kd.R_new' (Kd.R_new' ho0 (Kd.R_lt (by (with_reducible repeat (first | apply Kd.R_alloc | apply Kd.R_drewN | apply Kd.R_drew)); exact HO_0.out))) (Kd.R_lt (by (with_reducible repeat (first | apply Kd.R_alloc | apply Kd.R_drewN | apply Kd.R_drew)); exact HO640.out))) (below_size (by repeat (first | (with_reducible first | exact HB.out | apply below_alloc | apply pw_below_drewN | apply below_drew1 | refine below_set ?_ GE617.out | refine below_set ?_ GE629.out | refine below_set ?_ GE635.out) | exact HB.out)))); have n3_ := Aside0.mk (blk_below (g := gb617) (o := .cells #[.int .u32 a1_0, .int .u16 a1_1, .int .i64 a1_2, .int .i64 a1_3] 49 (0, 0)) (by (with_reducible repeat (first | refine blk_drewN ?_ _ | refine blk_drew ?_ | refine blk_alloc ?_ _)); exact BK617.out) hb); have n4_ := Aside0.mk (blk_below (g := gb629) (o := .cells #[.int .u32 t624, .int .u16 t625, .int .i64 t626, .int .i64 t627] 49 (0, 0)) (by (with_reducible repeat (first | refine blk_drewN ?_ _ | refine blk_drew ?_ | refine blk_alloc ?_ _)); exact BK629.out) hb); have n5_ := Aside0.mk (blk_below (g := gb635) (o := .cells #[.int .u32 t630, .int .u16 t631, .int .i64 t632, .int .i64 t633] 49 (0, 0)) (by (with_reducible repeat (first | refine blk_drewN ?_ _ | refine blk_drew ?_ | refine blk_alloc ?_ _)); exact BK635.out) hb); have n6_ := Aside0.mk (below_step (by repeat (first | (with_reducible first | exact HB.out | apply below_alloc | apply pw_below_drewN | apply below_drew1 | refine below_set ?_ GE617.out | refine below_set ?_ GE629.out | refine below_set ?_ GE635.out) | exact HB.out)) hb); clear HO_0; clear HO640; clear BK617; clear BK629; clear BK635; clear HB; have HO_0 := n0_; have HO640 := n1_; have HO644 := n2_; have BK617 := n3_; have BK629 := n4_; have BK635 := n5_; have HB := n6_; clear n0_ n1_ n2_ n3_ n4_ n5_ n6_; (try clear hb); (try clear hb2); (try clear hk); (try clear hi); (try clear ho0); obtain ⟨Ao53, co53, eo53⟩ := Kd.R_slice HO644.out; subst eo53) | (go_at_call 27; (with_reducible refine (bazaarref12_Same.calls kj28 _ _ t642 _ _ t619 t646 _ ?side1 ?side2 ?side3 ?side4 ?side5 A44.out).mono ?_); (case side1 => exact Laid_below HLD.out (by repeat (first | (with_reducible first | exact HB.out | apply below_alloc | apply pw_below_drewN | apply below_drew1 | refine below_set ?_ GE617.out | refine below_set ?_ GE629.out | refine below_set ?_ GE635.out) | exact HB.out))); (case side2 => repeat (first | exact (Kd.R_reads' HO644.out).2.2 | (with_reducible refine Kd.C_alloc ?_ _) | (with_reducible refine Kd.C_drewN ?_ _) | (with_reducible refine Kd.C_drew ?_))); (case side3 => exact (Kd.R_reads' HO644.out).2.1); (case side4 => repeat (first | exact (Kd.R_reads' HO_0.out).2.2 | (with_reducible refine Kd.C_alloc ?_ _) | (with_reducible refine Kd.C_drewN ?_ _) | (with_reducible refine Kd.C_drew ?_))); (case side5 => exact (Kd.R_reads' HO_0.out).2.1); rintro e w54 ⟨rfl, hb⟩; have n0_ := Aside0.mk (Kd.R_below (by (with_reducible repeat (first | apply Kd.R_alloc | apply Kd.R_drewN | apply Kd.R_drew)); exact HO_0.out) hb); have n1_ := Aside0.mk (Kd.R_below (by (with_reducible repeat (first | apply Kd.R_alloc | apply Kd.R_drewN | apply Kd.R_drew)); exact HO640.out) hb); have n2_ := Aside0.mk (Kd.R_below (by (with_reducible repeat (first | apply Kd.R_alloc | apply Kd.R_drewN | apply Kd.R_drew)); exact HO644.out) hb); have n3_ := Aside0.mk (blk_below (g := gb617) (o := .cells #[.int .u32 a1_0, .int .u16 a1_1, .int .i64 a1_2, .int .i64 a1_3] 49 (0, 0)) (by (with_reducible repeat (first | refine blk_drewN ?_ _ | refine blk_drew ?_ | refine blk_alloc ?_ _)); exact BK617.out) hb); have n4_ := Aside0.mk (blk_below (g := gb629) (o := .cells #[.int .u32 t624, .int .u16 t625, .int .i64 t626, .int .i64 t627] 49 (0, 0)) (by (with_reducible repeat (first | refine blk_drewN ?_ _ | refine blk_drew ?_ | refine blk_alloc ?_ _)); exact BK629.out) hb); have n5_ := Aside0.mk (blk_below (g := gb635) (o := .cells #[.int .u32 t630, .int .u16 t631, .int .i64 t632, .int .i64 t633] 49 (0, 0)) (by (with_reducible repeat (first | refine blk_drewN ?_ _ | refine blk_drew ?_ | refine blk_alloc ?_ _)); exact BK635.out) hb); have n6_ := Aside0.mk (below_step (by repeat (first | (with_reducible first | exact HB.out | apply below_alloc | apply pw_below_drewN | apply below_drew1 | refine below_set ?_ GE617.out | refine below_set ?_ GE629.out | refine below_set ?_ GE635.out) | exact HB.out)) hb); clear HO_0; clear HO640; clear HO644; clear BK617; clear BK629; clear BK635; clear HB; have HO_0 := n0_; have HO640 := n1_; have HO644 := n2_; have BK617 := n3_; have BK629 := n4_; have BK635 := n5_; have HB := n6_; clear n0_ n1_ n2_ n3_ n4_ n5_ n6_; (try clear hb); (try clear hb2); (try clear hk); (try clear hi)))
                        go_ret
                        exact ⟨by first | rfl | (simp [errW_none, errW_some] <;> rfl) | (simp only [← hji6]; first | rfl | (simp [errW_none, errW_some] <;> rfl)) | (simp [*, errW_none, errW_some] <;> rfl), by repeat (first | (with_reducible first | exact HB.out | apply below_alloc | apply pw_below_drewN | apply below_drew1 | refine below_set ?_ GE617.out | refine below_set ?_ GE629.out | refine below_set ?_ GE635.out) | exact HB.out)⟩
                      · rw [if_neg c43] at H
                        have c43b0 : (t645 == 0) = false := beq_eq_false_iff_ne.mpr c43
                        have c43b1 : (t645 != 0) = true := bne_iff_ne.mpr c43
                        obtain rfl := Option.some.inj H
                        exact absurd HTR_.out (by decide)
                    · rw [if_neg c42] at H
                      have c42b0 : (t641 == 0) = false := beq_eq_false_iff_ne.mpr c42
                      have c42b1 : (t641 != 0) = true := bne_iff_ne.mpr c42
                      obtain rfl := Option.some.inj H
                      have hnb55 := NB617_629.out
                      have hnc55 := NB629_617.out
                      have hnb56 := NB617_635.out
                      have hnc56 := NB635_617.out
                      have hcz57_0 : wc.cell? ⟨gb617, 0, none⟩ = some (.int .u32 a1_0) := (blk_cell BK617.out 0).trans rfl
                      have hcz57_1 : wc.cell? ⟨gb617, 1, none⟩ = some (.int .u16 a1_1) := (blk_cell BK617.out 1).trans rfl
                      have hcz57_2 : wc.cell? ⟨gb617, 2, none⟩ = some (.int .i64 a1_2) := (blk_cell BK617.out 2).trans rfl
                      have hcz57_3 : wc.cell? ⟨gb617, 3, none⟩ = some (.int .i64 a1_3) := (blk_cell BK617.out 3).trans rfl
                      have hfz57_0 := blk_frozen BK617.out 0
                      have hfz57_1 := blk_frozen BK617.out 1
                      have hfz57_2 := blk_frozen BK617.out 2
                      have hfz57_3 := blk_frozen BK617.out 3
                      obtain ⟨Ao58, co58, eo58⟩ := Kd.R_slice HO_0.out
                      subst eo58
                      go_wp2_with (first | ((with_reducible refine gate_callee (f := 32) rfl ?_); refine goesL_ (some 73) rfl rfl Tryd.func32 (by kernel_rfl) rfl #[.slice Ao58 t619.length co58, .agg #[.int .u32 a1_0, .int .u16 a1_1, .int .i64 a1_2, .int .i64 a1_3]] rfl (by (try simp only [List.map_toArray, List.map_cons, List.map_nil]); first | done | rfl | (simp only [List.length_drop, List.length_take]; rfl)) ?_; (with_reducible refine (shop_List.calls _ _ t619 a1_0 a1_1 a1_2 a1_3 t638 t641 _ ?side1 ?side2 ?side3 A39.out).mono ?_); (case side1 => exact Laid_below HLD.out (by repeat (first | (with_reducible first | exact HB.out | apply below_alloc | apply pw_below_drewN | apply below_drew1 | refine below_set ?_ GE617.out | refine below_set ?_ GE629.out | refine below_set ?_ GE635.out) | exact HB.out))); (case side2 => repeat (first | exact (Kd.R_reads' HO_0.out).2.2 | (with_reducible refine Kd.C_alloc ?_ _) | (with_reducible refine Kd.C_drewN ?_ _) | (with_reducible refine Kd.C_drew ?_))); (case side3 => exact (Kd.R_reads' HO_0.out).2.1); rintro e w59 ⟨v639, rfl, ho0, hb⟩; refine ⟨_, rfl, ?_⟩; have n0_ := Aside0.mk (Kd.R_elder' (by (with_reducible repeat (first | apply Kd.R_alloc | apply Kd.R_drewN | apply Kd.R_drew)); exact HO_0.out) (Kd.R_base ho0) hb); have n1_ := Aside0.mk (Kd.R_lower (Kd.R_new' ho0 (Kd.R_lt (by (with_reducible repeat (first | apply Kd.R_alloc | apply Kd.R_drewN | apply Kd.R_drew)); exact HO_0.out))) (below_size (by repeat (first | (with_reducible first | exact HB.out | apply below_alloc | apply pw_below_drewN | apply below_drew1 | refine below_set ?_ GE617.out | refine below_set ?_ GE629.out | refine below_set ?_ GE635.out) | exact HB.out)))); have n2_ := Aside0.mk (blk_below (g := gb617) (o := .cells #[.int .u32 a1_0, .int .u16 a1_1, .int .i64 a1_2, .int .i64 a1_3] 49 (0, 0)) (by (with_reducible repeat (first | refine blk_drewN ?_ _ | refine blk_drew ?_ | refine blk_alloc ?_ _)); exact BK617.out) hb); have n3_ := Aside0.mk (blk_below (g := gb629) (o := .cells #[.int .u32 t624, .int .u16 t625, .int .i64 t626, .int .i64 t627] 49 (0, 0)) (by (with_reducible repeat (first | refine blk_drewN ?_ _ | refine blk_drew ?_ | refine blk_alloc ?_ _)); exact BK629.out) hb); have n4_ := Aside0.mk (blk_below (g := gb635) (o := .cells #[.int .u32 t630, .int .u16 t631, .int .i64 t632, .int .i64 t633] 49 (0, 0)) (by (with_reducible repeat (first | refine blk_drewN ?_ _ | refine blk_drew ?_ | refine blk_alloc ?_ _)); exact BK635.out) hb); have n5_ := Aside0.mk (below_step (by repeat (first | (with_reducible first | exact HB.out | apply below_alloc | apply pw_below_drewN | apply below_drew1 | refine below_set ?_ GE617.out | refine below_set ?_ GE629.out | refine below_set ?_ GE635.out) | exact HB.out)) hb); clear HO_0; clear BK617; clear BK629; clear BK635; clear HB; have HO_0 := n0_; have HO640 := n1_; have BK617 := n2_; have BK629 := n3_; have BK635 := n4_; have HB := n5_; clear n0_ n1_ n2_ n3_ n4_ n5_; (try clear hb); (try clear hb2); (try clear hk); (try clear hi); (try clear ho0); have hcz60_0 : w59.cell? ⟨gb617, 0, none⟩ = some (.int .u32 a1_0) := (blk_cell BK617.out 0).trans rfl; have hcz60_1 : w59.cell? ⟨gb617, 1, none⟩ = some (.int .u16 a1_1) := (blk_cell BK617.out 1).trans rfl; have hcz60_2 : w59.cell? ⟨gb617, 2, none⟩ = some (.int .i64 a1_2) := (blk_cell BK617.out 2).trans rfl; have hcz60_3 : w59.cell? ⟨gb617, 3, none⟩ = some (.int .i64 a1_3) := (blk_cell BK617.out 3).trans rfl; have hfz60_0 := blk_frozen BK617.out 0; have hfz60_1 := blk_frozen BK617.out 1; have hfz60_2 := blk_frozen BK617.out 2; have hfz60_3 := blk_frozen BK617.out 3; obtain ⟨Ao61, co61, eo61⟩ := Kd.R_slice HO640.out; subst eo61) | ((with_reducible refine gate_callee (f := 34) rfl ?_); refine goesL_ (some 79) rfl rfl Tryd.func34 (by kernel_rfl) rfl #[.slice Ao61 t638.length co61, .agg #[.int .u32 a1_0, .int .u16 a1_1, .int .i64 a1_2, .int .i64 a1_3]] rfl (by (try simp only [List.map_toArray, List.map_cons, List.map_nil]); first | done | rfl | (simp only [List.length_drop, List.length_take]; rfl)) ?_; (with_reducible refine (shop_Cancel.calls _ _ t638 a1_0 a1_1 a1_2 a1_3 t642 t645 _ ?side1 ?side2 ?side3 A40.out).mono ?_); (case side1 => exact Laid_below HLD.out (by repeat (first | (with_reducible first | exact HB.out | apply below_alloc | apply pw_below_drewN | apply below_drew1 | refine below_set ?_ GE617.out | refine below_set ?_ GE629.out | refine below_set ?_ GE635.out) | exact HB.out))); (case side2 => repeat (first | exact (Kd.R_reads' HO640.out).2.2 | (with_reducible refine Kd.C_alloc ?_ _) | (with_reducible refine Kd.C_drewN ?_ _) | (with_reducible refine Kd.C_drew ?_))); (case side3 => exact (Kd.R_reads' HO640.out).2.1); rintro e w62 ⟨v643, rfl, ho0, hb⟩; refine ⟨_, rfl, ?_⟩; have n0_ := Aside0.mk (Kd.R_elder' (by (with_reducible repeat (first | apply Kd.R_alloc | apply Kd.R_drewN | apply Kd.R_drew)); exact HO_0.out) (Kd.R_base ho0) hb); have n1_ := Aside0.mk (Kd.R_elder' (by (with_reducible repeat (first | apply Kd.R_alloc | apply Kd.R_drewN | apply Kd.R_drew)); exact HO640.out) (Kd.R_base ho0) hb); have n2_ := Aside0.mk (Kd.R_lower (Kd.R_new' (Kd.R_new' ho0 (Kd.R_lt (by (with_reducible repeat (first | apply Kd.R_alloc | apply Kd.R_drewN | apply Kd.R_drew)); exact HO_0.out))) (Kd.R_lt (by (with_reducible repeat (first | apply Kd.R_alloc | apply Kd.R_drewN | apply Kd.R_drew)); exact HO640.out))) (below_size (by repeat (first | (with_reducible first | exact HB.out | apply below_alloc | apply pw_below_drewN | apply below_drew1 | refine below_set ?_ GE617.out | refine below_set ?_ GE629.out | refine below_set ?_ GE635.out) | exact HB.out)))); have n3_ := Aside0.mk (blk_below (g := gb617) (o := .cells #[.int .u32 a1_0, .int .u16 a1_1, .int .i64 a1_2, .int .i64 a1_3] 49 (0, 0)) (by (with_reducible repeat (first | refine blk_drewN ?_ _ | refine blk_drew ?_ | refine blk_alloc ?_ _)); exact BK617.out) hb); have n4_ := Aside0.mk (blk_below (g := gb629) (o := .cells #[.int .u32 t624, .int .u16 t625, .int .i64 t626, .int .i64 t627] 49 (0, 0)) (by (with_reducible repeat (first | refine blk_drewN ?_ _ | refine blk_drew ?_ | refine blk_alloc ?_ _)); exact BK629.out) hb); have n5_ := Aside0.mk (blk_below (g := gb635) (o := .cells #[.int .u32 t630, .int .u16 t631, .int .i64 t632, .int .i64 t633] 49 (0, 0)) (by (with_reducible repeat (first | refine blk_drewN ?_ _ | refine blk_drew ?_ | refine blk_alloc ?_ _)); exact BK635.out) hb); have n6_ := Aside0.mk (below_step (by repeat (first | (with_reducible first | exact HB.out | apply below_alloc | apply pw_below_drewN | apply below_drew1 | refine below_set ?_ GE617.out | refine below_set ?_ GE629.out | refine below_set ?_ GE635.out) | exact HB.out)) hb); clear HO_0; clear HO640; clear BK617; clear BK629; clear BK635; clear HB; have HO_0 := n0_; have HO640 := n1_; have HO644 := n2_; have BK617 := n3_; have BK629 := n4_; have BK635 := n5_; have HB := n6_; clear n0_ n1_ n2_ n3_ n4_ n5_ n6_; (try clear hb); (try clear hb2); (try clear hk); (try clear hi); (try clear ho0)))
                      go_ret
                      exact ⟨by first | rfl | (simp [errW_none, errW_some] <;> rfl) | (simp only [← hji6]; first | rfl | (simp [errW_none, errW_some] <;> rfl)) | (simp [*, errW_none, errW_some] <;> rfl), by repeat (first | (with_reducible first | exact HB.out | apply below_alloc | apply pw_below_drewN | apply below_drew1 | refine below_set ?_ GE617.out | refine below_set ?_ GE629.out | refine below_set ?_ GE635.out) | exact HB.out)⟩
                  · replace c41 := Bool.eq_false_iff.mpr c41
                    subst c41
                    have H1 : (some false) = some r := by rw [if_neg (show ¬ (false = true) by decide)] at H; exact H
                    clear H
                    have H := H1
                    clear H1
                    obtain rfl := Option.some.inj H
                    exact absurd HTR_.out (by decide)
    · rw [if_neg c8] at H
      exact absurd H (by simp)
  · rw [if_neg c7] at H
    exact absurd H (by simp)

end Go.Proofs.YtoclldkgkmhgaaaDoor.K
