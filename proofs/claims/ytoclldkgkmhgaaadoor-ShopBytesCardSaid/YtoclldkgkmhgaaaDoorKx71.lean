-- Printed by a program of this session (a turned copy of the print); what it takes as given stands in the seat's own texts.
import Derived.Test.YtoclldkgkmhgaaaDoorKx0
import Derived.Test.YtoclldkgkmhgaaaDoorKx4
import Derived.Test.YtoclldkgkmhgaaaDoorKx55
import Derived.Test.YtoclldkgkmhgaaaDoorKx59
import Derived.Test.YtoclldkgkmhgaaaDoorKx68
import Derived.Test.YtoclldkgkmhgaaaDoorKx69
import Derived.Test.YtoclldkgkmhgaaaDoorKx70
import Derived.Test.YtoclldkgkmhgaaaDoorSParse15
import Derived.Test.YtoclldkgkmhgaaaDoorCG
namespace Go.Proofs.YtoclldkgkmhgaaaDoor.K
open Go.RowKit Go.Proofs.YtoclldkgkmhgaaaDoorW.PrintWords Go.Proofs.YtoclldkgkmhgaaaDoorW.PrintLast Go.Proofs.YtoclldkgkmhgaaaDoorW.PrintMore
attribute [local go_sem] max2_int min2_int max_two min_two max_three min_three max_four min_four   -- for this text's walks alone
set_option linter.unusedVariables false
set_option linter.unusedSimpArgs false

attribute [local go_sem high] eqA49
/-! ### bazaarlaw15_ShopBytes: function 12 -/
def bazaarlaw15_ShopBytes.f (k : Nat) (a0_0 : Int) (a0_1 : Int) (a0_2 : Int) (a0_3 : Int) (a1 : ByteArray) : Option (Bool) := (bazaarlaw15_shown.f k).bind fun t593 => (if 0 ≤ (mn (a1.size : Int) 40) then (if (mn (a1.size : Int) 40) ≤ (a1.size : Int) then ((shop_Bytes.f a0_0 a0_1 a0_2 a0_3).bind fun bt594 => ((bazaarref15_Bytes.f k a0_0 a0_1 a0_2 a0_3).bind fun bt596 => ((shop_Parse.f (a1.extract 0 ((mn (a1.size : Int) 40) : Int).toNat)).bind fun bt598 => ((bazaarref15_Parse.f k (a1.extract 0 ((mn (a1.size : Int) 40) : Int).toNat)).bind fun bt604 => (if t593 = true then ((shop_Right.f k a0_0 a0_1 a0_2 a0_3).bind fun t610 => ((bazaarref15_Right.f a0_0 a0_1 a0_2 a0_3).bind fun t611 => (if (t610 == t611) = true then (if bt594.1.toList = bt596.1.toList then (if bt594.2 = bt596.2 then (if (bt598.1 == bt604.1 && ((bt598.2.1 == bt604.2.1 && (bt598.2.2.1 == bt604.2.2.1)) && (bt598.2.2.2.1 == bt604.2.2.2.1))) = true then (some (bt598.2.2.2.2 == bt604.2.2.2.2)) else (some false)) else (some false)) else (some false)) else (some false)))) else (some false)))))) else (none)) else (none))
def bazaarlaw15_ShopBytes.T7 : Bool × List (List Nat × List Nat) := (true, [([], []), ([0], [0]), ([1], [1]), ([2, 1, 1], [1, 2]), ([1], [1]), ([4, 3, 1], [1, 4]), ([3, 5, 1], [1, 3, 5]), ([1, 6], [1, 6]), ([7, 5], [7]), ([8], [8]), ([8], [8]), ([9, 10, 8], [8, 9, 10]), ([8, 11], [8, 11]), ([12, 8], [12]), ([13], [13]), ([13], [13]), ([14, 15, 13], [13, 14, 15]), ([13, 16], [13, 16]), ([17, 13], [17]), ([18], [18]), ([18], [18]), ([19, 20, 18], [18, 19, 20]), ([18, 21], [18, 21]), ([22, 18], [22]), ([23], [23]), ([23], [23]), ([24, 25, 23], [23, 24, 25]), ([23, 26], [23, 26]), ([27, 23, 0, 1, 2, 3, 4, 5, 6, 7, 8, 9, 10, 11, 12, 13, 14, 15, 16, 17, 18, 19, 20, 21, 22, 23, 24, 25, 26, 27], [27])])
def bazaarlaw15_ShopBytes.B7 : List Nat := [0, 1, 3, 7, 3, 31, 63, 127, 255, 511, 511, 2047, 4095, 8191, 16383, 16383, 65535, 131071, 262143, 524287, 524287, 2097151, 4194303, 8388607, 16777215, 16777215, 67108863, 134217727, 268435455]
theorem bazaarlaw15_ShopBytes.tab7 : rtab .any (opsOf Tryd.f12 7) = bazaarlaw15_ShopBytes.T7 := by kernel_rfl
theorem bazaarlaw15_ShopBytes.bits7 : waitsOk bazaarlaw15_ShopBytes.T7.2 bazaarlaw15_ShopBytes.B7 = true := by kernel_rfl
set_option maxHeartbeats 8000000 in
set_option maxRecDepth 100000 in
theorem bazaarlaw15_ShopBytes.calls (k : Nat) (a0_0 : Int) (a0_1 : Int) (a0_2 : Int) (a0_3 : Int) (a1 : ByteArray) (r : Bool) (w : World) (hL : Laid w) (h : bazaarlaw15_ShopBytes.f k a0_0 a0_1 a0_2 a0_3 a1 = some r) (hr_ : r = true) :
    Calls Tryd.prog 12 #[.agg #[.int .u32 a0_0, .int .u16 a0_1, .int .i64 a0_2, .int .i64 a0_3], .string a1] w fun e w' => e = .returned (.bool r) ∧ Below w.heap.size w w' := by
  have HTR_ := Aside0.mk hr_
  clear hr_
  have hu49 := Tryd.underlying49
  have HLD := Aside0.mk hL
  clear hL
  have HB := Aside0.mk (Below.refl w.heap.size w)
  have H : ((bazaarlaw15_shown.f k).bind fun t593 => (if 0 ≤ (mn (a1.size : Int) 40) then (if (mn (a1.size : Int) 40) ≤ (a1.size : Int) then ((shop_Bytes.f a0_0 a0_1 a0_2 a0_3).bind fun bt594 => ((bazaarref15_Bytes.f k a0_0 a0_1 a0_2 a0_3).bind fun bt596 => ((shop_Parse.f (a1.extract 0 ((mn (a1.size : Int) 40) : Int).toNat)).bind fun bt598 => ((bazaarref15_Parse.f k (a1.extract 0 ((mn (a1.size : Int) 40) : Int).toNat)).bind fun bt604 => (if t593 = true then ((shop_Right.f k a0_0 a0_1 a0_2 a0_3).bind fun t610 => ((bazaarref15_Right.f a0_0 a0_1 a0_2 a0_3).bind fun t611 => (if (t610 == t611) = true then (if bt594.1.toList = bt596.1.toList then (if bt594.2 = bt596.2 then (if (bt598.1 == bt604.1 && ((bt598.2.1 == bt604.2.1 && (bt598.2.2.1 == bt604.2.2.1)) && (bt598.2.2.2.1 == bt604.2.2.2.1))) = true then (some (bt598.2.2.2.2 == bt604.2.2.2.2)) else (some false)) else (some false)) else (some false)) else (some false)))) else (some false)))))) else (none)) else (none))) = some r := h
  clear h
  replace H := Option.bind_eq_some_iff.mp H
  obtain ⟨t593, A30, H⟩ := H
  replace H : (if 0 ≤ (mn (a1.size : Int) 40) then (if (mn (a1.size : Int) 40) ≤ (a1.size : Int) then ((shop_Bytes.f a0_0 a0_1 a0_2 a0_3).bind fun bt594 => ((bazaarref15_Bytes.f k a0_0 a0_1 a0_2 a0_3).bind fun bt596 => ((shop_Parse.f (a1.extract 0 ((mn (a1.size : Int) 40) : Int).toNat)).bind fun bt598 => ((bazaarref15_Parse.f k (a1.extract 0 ((mn (a1.size : Int) 40) : Int).toNat)).bind fun bt604 => (if t593 = true then ((shop_Right.f k a0_0 a0_1 a0_2 a0_3).bind fun t610 => ((bazaarref15_Right.f a0_0 a0_1 a0_2 a0_3).bind fun t611 => (if (t610 == t611) = true then (if bt594.1.toList = bt596.1.toList then (if bt594.2 = bt596.2 then (if (bt598.1 == bt604.1 && ((bt598.2.1 == bt604.2.1 && (bt598.2.2.1 == bt604.2.2.1)) && (bt598.2.2.2.1 == bt604.2.2.2.1))) = true then (some (bt598.2.2.2.2 == bt604.2.2.2.2)) else (some false)) else (some false)) else (some false)) else (some false)))) else (some false)))))) else (none)) else (none)) = some r := H
  have A3 := Aside0.mk A30
  clear A30
  obtain ⟨ji4, hji4⟩ : ∃ j_ : Int, (mn (a1.size : Int) 40) = j_ := ⟨_, rfl⟩
  replace H : (if 0 ≤ (ji4) then (if (ji4) ≤ (a1.size : Int) then ((shop_Bytes.f a0_0 a0_1 a0_2 a0_3).bind fun bt594 => ((bazaarref15_Bytes.f k a0_0 a0_1 a0_2 a0_3).bind fun bt596 => ((shop_Parse.f (a1.extract 0 ((ji4) : Int).toNat)).bind fun bt598 => ((bazaarref15_Parse.f k (a1.extract 0 ((ji4) : Int).toNat)).bind fun bt604 => (if t593 = true then ((shop_Right.f k a0_0 a0_1 a0_2 a0_3).bind fun t610 => ((bazaarref15_Right.f a0_0 a0_1 a0_2 a0_3).bind fun t611 => (if (t610 == t611) = true then (if bt594.1.toList = bt596.1.toList then (if bt594.2 = bt596.2 then (if (bt598.1 == bt604.1 && ((bt598.2.1 == bt604.2.1 && (bt598.2.2.1 == bt604.2.2.1)) && (bt598.2.2.2.1 == bt604.2.2.2.1))) = true then (some (bt598.2.2.2.2 == bt604.2.2.2.2)) else (some false)) else (some false)) else (some false)) else (some false)))) else (some false)))))) else (none)) else (none)) = some r := by first | (rw [hji4] at H; exact H) | (simp only [hji4] at H ⊢; exact H)
  (try rw [hji4] at A3)
  (try (have hji4h : ji4 ≤ 40 := by (rw [← hji4]; unfold mn; (repeat' split) <;> omega)))
  (try (have hji4g : ji4 ≤ 64 := by omega))
  (try (have hji4l : 0 ≤ ji4 := by (rw [← hji4]; unfold mn; (repeat' split) <;> omega)))
  (try (have hji4m : 0 ≤ ji4 := by omega))
  have hji4_ : (if 40 < (a1.size : Int) then 40 else (a1.size : Int)) = ji4 := hji4
  by_cases c5 : 0 ≤ (ji4)
  · rw [if_pos c5] at H
    have c5b0 := eq_true c5
    have c5b1 : decide (0 ≤ (ji4)) = true := decide_eq_true c5
    clear c5
    by_cases c6 : (ji4) ≤ (a1.size : Int)
    · rw [if_pos c6] at H
      have c6b0 := eq_true c6
      have c6b1 : decide ((ji4) ≤ (a1.size : Int)) = true := decide_eq_true c6
      clear c6
      replace H := Option.bind_eq_some_iff.mp H
      obtain ⟨⟨t594, t595⟩, A70, H⟩ := H
      replace H : ((bazaarref15_Bytes.f k a0_0 a0_1 a0_2 a0_3).bind fun bt596 => ((shop_Parse.f (a1.extract 0 ((ji4) : Int).toNat)).bind fun bt598 => ((bazaarref15_Parse.f k (a1.extract 0 ((ji4) : Int).toNat)).bind fun bt604 => (if t593 = true then ((shop_Right.f k a0_0 a0_1 a0_2 a0_3).bind fun t610 => ((bazaarref15_Right.f a0_0 a0_1 a0_2 a0_3).bind fun t611 => (if (t610 == t611) = true then (if t594.toList = bt596.1.toList then (if t595 = bt596.2 then (if (bt598.1 == bt604.1 && ((bt598.2.1 == bt604.2.1 && (bt598.2.2.1 == bt604.2.2.1)) && (bt598.2.2.2.1 == bt604.2.2.2.1))) = true then (some (bt598.2.2.2.2 == bt604.2.2.2.2)) else (some false)) else (some false)) else (some false)) else (some false)))) else (some false))))) = some r := H
      have A7 := Aside0.mk A70
      clear A70
      replace H := Option.bind_eq_some_iff.mp H
      obtain ⟨⟨t596, t597⟩, A80, H⟩ := H
      replace H : ((shop_Parse.f (a1.extract 0 ((ji4) : Int).toNat)).bind fun bt598 => ((bazaarref15_Parse.f k (a1.extract 0 ((ji4) : Int).toNat)).bind fun bt604 => (if t593 = true then ((shop_Right.f k a0_0 a0_1 a0_2 a0_3).bind fun t610 => ((bazaarref15_Right.f a0_0 a0_1 a0_2 a0_3).bind fun t611 => (if (t610 == t611) = true then (if t594.toList = t596.toList then (if t595 = t597 then (if (bt598.1 == bt604.1 && ((bt598.2.1 == bt604.2.1 && (bt598.2.2.1 == bt604.2.2.1)) && (bt598.2.2.2.1 == bt604.2.2.2.1))) = true then (some (bt598.2.2.2.2 == bt604.2.2.2.2)) else (some false)) else (some false)) else (some false)) else (some false)))) else (some false)))) = some r := H
      have A8 := Aside0.mk A80
      clear A80
      replace H := Option.bind_eq_some_iff.mp H
      obtain ⟨⟨t598, t599, t600, t601, t602⟩, A90, H⟩ := H
      replace H : ((bazaarref15_Parse.f k (a1.extract 0 ((ji4) : Int).toNat)).bind fun bt604 => (if t593 = true then ((shop_Right.f k a0_0 a0_1 a0_2 a0_3).bind fun t610 => ((bazaarref15_Right.f a0_0 a0_1 a0_2 a0_3).bind fun t611 => (if (t610 == t611) = true then (if t594.toList = t596.toList then (if t595 = t597 then (if (t598 == bt604.1 && ((t599 == bt604.2.1 && (t600 == bt604.2.2.1)) && (t601 == bt604.2.2.2.1))) = true then (some (t602 == bt604.2.2.2.2)) else (some false)) else (some false)) else (some false)) else (some false)))) else (some false))) = some r := H
      have A9 := Aside0.mk A90
      clear A90
      replace H := Option.bind_eq_some_iff.mp H
      obtain ⟨⟨t604, t605, t606, t607, t608⟩, A100, H⟩ := H
      replace H : (if t593 = true then ((shop_Right.f k a0_0 a0_1 a0_2 a0_3).bind fun t610 => ((bazaarref15_Right.f a0_0 a0_1 a0_2 a0_3).bind fun t611 => (if (t610 == t611) = true then (if t594.toList = t596.toList then (if t595 = t597 then (if (t598 == t604 && ((t599 == t605 && (t600 == t606)) && (t601 == t607))) = true then (some (t602 == t608)) else (some false)) else (some false)) else (some false)) else (some false)))) else (some false)) = some r := H
      have A10 := Aside0.mk A100
      clear A100
      by_cases c11 : t593 = true
      · subst c11
        have H1 : ((shop_Right.f k a0_0 a0_1 a0_2 a0_3).bind fun t610 => ((bazaarref15_Right.f a0_0 a0_1 a0_2 a0_3).bind fun t611 => (if (t610 == t611) = true then (if t594.toList = t596.toList then (if t595 = t597 then (if (t598 == t604 && ((t599 == t605 && (t600 == t606)) && (t601 == t607))) = true then (some (t602 == t608)) else (some false)) else (some false)) else (some false)) else (some false)))) = some r := by rw [if_pos rfl] at H; exact H
        clear H
        have H := H1
        clear H1
        replace H := Option.bind_eq_some_iff.mp H
        obtain ⟨t610, A120, H⟩ := H
        replace H : ((bazaarref15_Right.f a0_0 a0_1 a0_2 a0_3).bind fun t611 => (if (t610 == t611) = true then (if t594.toList = t596.toList then (if t595 = t597 then (if (t598 == t604 && ((t599 == t605 && (t600 == t606)) && (t601 == t607))) = true then (some (t602 == t608)) else (some false)) else (some false)) else (some false)) else (some false))) = some r := H
        have A12 := Aside0.mk A120
        clear A120
        replace H := Option.bind_eq_some_iff.mp H
        obtain ⟨t611, A130, H⟩ := H
        replace H : (if (t610 == t611) = true then (if t594.toList = t596.toList then (if t595 = t597 then (if (t598 == t604 && ((t599 == t605 && (t600 == t606)) && (t601 == t607))) = true then (some (t602 == t608)) else (some false)) else (some false)) else (some false)) else (some false)) = some r := H
        have A13 := Aside0.mk A130
        clear A130
        by_cases c14 : (t610 == t611) = true
        · rw [if_pos c14] at H
          have c14b0 : (t610 == t611) = true := c14
          (try (have c14b1 : decide (t610 = t611) = true := by simpa using c14))
          (try (have c14b2 : (t610 == t611) = true := by simpa using c14))
          clear c14
          by_cases c15 : t594.toList = t596.toList
          · rw [if_pos c15] at H
            have c15b0 : (t594.toList == t596.toList) = true := beq_iff_eq.mpr c15
            have c15b1 : (t594.toList != t596.toList) = false := bne_eq_false_iff_eq.mpr c15
            clear c15
            by_cases c16 : t595 = t597
            · rw [if_pos c16] at H
              have c16b0 : (t595 == t597) = true := beq_iff_eq.mpr c16
              have c16b1 : (t595 != t597) = false := bne_eq_false_iff_eq.mpr c16
              clear c16
              by_cases c17 : (t598 == t604 && ((t599 == t605 && (t600 == t606)) && (t601 == t607))) = true
              · rw [if_pos c17] at H
                have c17b0 : (t598 == t604 && ((t599 == t605 && (t600 == t606)) && (t601 == t607))) = true := c17
                (try (have c17b1 : decide (t598 = t604 && ((t599 == t605 && (t600 == t606)) && (t601 == t607))) = true := by simpa using c17))
                (try (have c17b2 : (t598 == t604 && ((t599 == t605 && (t600 == t606)) && (t601 == t607))) = true := by simpa using c17))
                clear c17
                obtain rfl := Option.some.inj H
                go_enter Tryd.func12, Tryd.ntmps12
                try go_wp2_with (first | ((with_reducible refine gate_dst (N := 2) rfl ?_); refine box_event ?hg (N := 2) ?hd (cs := #[.int .u32 a0_0, .int .u16 a0_1, .int .i64 a0_2, .int .i64 a0_3]) (t := 49) ?hr ?_; (case hd => rfl); (case hg => rfl); (case hr => first | (go_simp; done) | (go_simp; rfl)); intro gb592 hg w18 hbox hb; have n0_ := Aside0.mk (below_step (by repeat (first | (with_reducible first | exact HB.out | apply below_alloc | apply pw_below_drewN | apply below_drew1) | exact HB.out)) hb); have n1_ := Aside0.mk (hbox); have n2_ := Aside0.mk ((by rw [hg]; exact (below_size (by repeat (first | (with_reducible first | exact HB.out | apply below_alloc | apply pw_below_drewN | apply below_drew1) | exact HB.out))) : w.heap.size ≤ gb592)); have n3_ := Aside0.mk ((by rw [hg]; exact (below_size (by repeat (first | (with_reducible first | exact HB.out | apply below_alloc | apply pw_below_drewN | apply below_drew1) | exact HB.out))) : w.heap.size ≤ gb592)); clear HB; have HB := n0_; have BK592 := n1_; have GW592 := n2_; have GE592 := n3_; clear n0_ n1_ n2_ n3_; clear hb hbox hg) | ((with_reducible refine gate_callee (f := 29) rfl ?_); refine goesL_ (some 14) rfl rfl Tryd.func29 (by kernel_rfl) rfl #[] rfl (by (try simp only [List.map_toArray, List.map_cons, List.map_nil]); first | done | rfl | (simp only [List.length_drop, List.length_take]; rfl)) ?_; (with_reducible refine (bazaarlaw15_shown.calls k  true _ ?side1 A3.out).mono ?_); (case side1 => exact Laid_below HLD.out (by repeat (first | (with_reducible first | exact HB.out | apply below_alloc | apply pw_below_drewN | apply below_drew1 | refine below_set ?_ GE592.out) | exact HB.out))); rintro e w19 ⟨rfl, hb⟩; refine ⟨_, rfl, ?_⟩; have n0_ := Aside0.mk (blk_below (g := gb592) (o := .cells #[.int .u32 a0_0, .int .u16 a0_1, .int .i64 a0_2, .int .i64 a0_3] 49 (0, 0)) (by (with_reducible repeat (first | refine blk_drewN ?_ _ | refine blk_drew ?_ | refine blk_alloc ?_ _)); exact BK592.out) hb); have n1_ := Aside0.mk (below_step (by repeat (first | (with_reducible first | exact HB.out | apply below_alloc | apply pw_below_drewN | apply below_drew1 | refine below_set ?_ GE592.out) | exact HB.out)) hb); clear BK592; clear HB; have BK592 := n0_; have HB := n1_; clear n0_ n1_; (try clear hb); (try clear hb2); (try clear hk); (try clear hi); have hcz20_0 : w19.cell? ⟨gb592, 0, none⟩ = some (.int .u32 a0_0) := (blk_cell BK592.out 0).trans rfl; have hcz20_1 : w19.cell? ⟨gb592, 1, none⟩ = some (.int .u16 a0_1) := (blk_cell BK592.out 1).trans rfl; have hcz20_2 : w19.cell? ⟨gb592, 2, none⟩ = some (.int .i64 a0_2) := (blk_cell BK592.out 2).trans rfl; have hcz20_3 : w19.cell? ⟨gb592, 3, none⟩ = some (.int .i64 a0_3) := (blk_cell BK592.out 3).trans rfl; have hfz20_0 := blk_frozen BK592.out 0; have hfz20_1 := blk_frozen BK592.out 1; have hfz20_2 := blk_frozen BK592.out 2; have hfz20_3 := blk_frozen BK592.out 3) | ((with_reducible refine gate_callee (f := 37) rfl ?_); refine goesL_ (some 22) rfl rfl Tryd.func37 (by kernel_rfl) rfl #[.agg #[.int .u32 a0_0, .int .u16 a0_1, .int .i64 a0_2, .int .i64 a0_3]] rfl (by (try simp only [List.map_toArray, List.map_cons, List.map_nil]); first | done | rfl | (simp only [List.length_drop, List.length_take]; rfl)) ?_; (with_reducible refine (shop_Bytes.calls a0_0 a0_1 a0_2 a0_3 t594 t595 _ ?side1 A7.out).mono ?_); (case side1 => exact Laid_below HLD.out (by repeat (first | (with_reducible first | exact HB.out | apply below_alloc | apply pw_below_drewN | apply below_drew1 | refine below_set ?_ GE592.out) | exact HB.out))); rintro e w21 ⟨rfl, hb⟩; refine ⟨_, rfl, ?_⟩; have n0_ := Aside0.mk (blk_below (g := gb592) (o := .cells #[.int .u32 a0_0, .int .u16 a0_1, .int .i64 a0_2, .int .i64 a0_3] 49 (0, 0)) (by (with_reducible repeat (first | refine blk_drewN ?_ _ | refine blk_drew ?_ | refine blk_alloc ?_ _)); exact BK592.out) hb); have n1_ := Aside0.mk (below_step (by repeat (first | (with_reducible first | exact HB.out | apply below_alloc | apply pw_below_drewN | apply below_drew1 | refine below_set ?_ GE592.out) | exact HB.out)) hb); clear BK592; clear HB; have BK592 := n0_; have HB := n1_; clear n0_ n1_; (try clear hb); (try clear hb2); (try clear hk); (try clear hi); have hcz22_0 : w21.cell? ⟨gb592, 0, none⟩ = some (.int .u32 a0_0) := (blk_cell BK592.out 0).trans rfl; have hcz22_1 : w21.cell? ⟨gb592, 1, none⟩ = some (.int .u16 a0_1) := (blk_cell BK592.out 1).trans rfl; have hcz22_2 : w21.cell? ⟨gb592, 2, none⟩ = some (.int .i64 a0_2) := (blk_cell BK592.out 2).trans rfl; have hcz22_3 : w21.cell? ⟨gb592, 3, none⟩ = some (.int .i64 a0_3) := (blk_cell BK592.out 3).trans rfl; have hfz22_0 := blk_frozen BK592.out 0; have hfz22_1 := blk_frozen BK592.out 1; have hfz22_2 := blk_frozen BK592.out 2; have hfz22_3 := blk_frozen BK592.out 3) | ((with_reducible refine gate_callee (f := 38) rfl ?_); refine goesL_ (some 27) rfl rfl Tryd.func38 (by kernel_rfl) rfl #[.agg #[.int .u32 a0_0, .int .u16 a0_1, .int .i64 a0_2, .int .i64 a0_3]] rfl (by (try simp only [List.map_toArray, List.map_cons, List.map_nil]); first | done | rfl | (simp only [List.length_drop, List.length_take]; rfl)) ?_; (with_reducible refine (bazaarref15_Bytes.calls k a0_0 a0_1 a0_2 a0_3 t596 t597 _ ?side1 A8.out).mono ?_); (case side1 => exact Laid_below HLD.out (by repeat (first | (with_reducible first | exact HB.out | apply below_alloc | apply pw_below_drewN | apply below_drew1 | refine below_set ?_ GE592.out) | exact HB.out))); rintro e w23 ⟨rfl, hb⟩; refine ⟨_, rfl, ?_⟩; have n0_ := Aside0.mk (blk_below (g := gb592) (o := .cells #[.int .u32 a0_0, .int .u16 a0_1, .int .i64 a0_2, .int .i64 a0_3] 49 (0, 0)) (by (with_reducible repeat (first | refine blk_drewN ?_ _ | refine blk_drew ?_ | refine blk_alloc ?_ _)); exact BK592.out) hb); have n1_ := Aside0.mk (below_step (by repeat (first | (with_reducible first | exact HB.out | apply below_alloc | apply pw_below_drewN | apply below_drew1 | refine below_set ?_ GE592.out) | exact HB.out)) hb); clear BK592; clear HB; have BK592 := n0_; have HB := n1_; clear n0_ n1_; (try clear hb); (try clear hb2); (try clear hk); (try clear hi)) | ((with_reducible refine gate_callee (f := 39) rfl ?_); refine goesL_ (some 32) rfl rfl Tryd.func39 (by kernel_rfl) rfl #[.string (a1.extract 0 ((ji4) : Int).toNat)] rfl (by (try simp only [List.map_toArray, List.map_cons, List.map_nil]); first | done | (simp only [hji4]; rfl) | rfl | (simp only [List.length_drop, List.length_take]; rfl)) ?_; (with_reducible refine (shop_Parse.calls (a1.extract 0 ((ji4) : Int).toNat) t598 t599 t600 t601 t602 _ ?side1 A9.out).mono ?_); (case side1 => exact Laid_below HLD.out (by repeat (first | (with_reducible first | exact HB.out | apply below_alloc | apply pw_below_drewN | apply below_drew1 | refine below_set ?_ GE592.out) | exact HB.out))); rintro e w24 ⟨rfl, hb⟩; refine ⟨_, rfl, ?_⟩; have n0_ := Aside0.mk (blk_below (g := gb592) (o := .cells #[.int .u32 a0_0, .int .u16 a0_1, .int .i64 a0_2, .int .i64 a0_3] 49 (0, 0)) (by (with_reducible repeat (first | refine blk_drewN ?_ _ | refine blk_drew ?_ | refine blk_alloc ?_ _)); exact BK592.out) hb); have n1_ := Aside0.mk (below_step (by repeat (first | (with_reducible first | exact HB.out | apply below_alloc | apply pw_below_drewN | apply below_drew1 | refine below_set ?_ GE592.out) | exact HB.out)) hb); clear BK592; clear HB; have BK592 := n0_; have HB := n1_; clear n0_ n1_; (try clear hb); (try clear hb2); (try clear hk); (try clear hi)) | ((with_reducible refine gate_dst (N := 10) rfl ?_); refine box_event ?hg (N := 10) ?hd (cs := #[.int .u32 0, .int .u16 0, .int .i64 0, .int .i64 0]) (t := 49) ?hr ?_; (case hd => rfl); (case hg => rfl); (case hr => first | (go_simp; done) | (go_simp; rfl)); intro gb603 hg w25 hbox hb; have n0_ := Aside0.mk (blk_below (g := gb592) (o := .cells #[.int .u32 a0_0, .int .u16 a0_1, .int .i64 a0_2, .int .i64 a0_3] 49 (0, 0)) (by (with_reducible repeat (first | refine blk_drewN ?_ _ | refine blk_drew ?_ | refine blk_alloc ?_ _)); exact BK592.out) hb); have n1_ := Aside0.mk (below_step (by repeat (first | (with_reducible first | exact HB.out | apply below_alloc | apply pw_below_drewN | apply below_drew1 | refine below_set ?_ GE592.out) | exact HB.out)) hb); have n2_ := Aside0.mk (hbox); have n3_ := Aside0.mk ((by rw [hg]; exact (below_size (by repeat (first | (with_reducible first | exact HB.out | apply below_alloc | apply pw_below_drewN | apply below_drew1 | refine below_set ?_ GE592.out) | exact HB.out))) : w.heap.size ≤ gb603)); have n4_ := Aside0.mk ((by rw [hg]; exact (below_size (by repeat (first | (with_reducible first | exact HB.out | apply below_alloc | apply pw_below_drewN | apply below_drew1 | refine below_set ?_ GE592.out) | exact HB.out))) : w.heap.size ≤ gb603)); have n5_ := Aside0.mk ((by rw [hg]; exact Nat.ne_of_lt (blk_lt (g := gb592) (o := .cells #[.int .u32 a0_0, .int .u16 a0_1, .int .i64 a0_2, .int .i64 a0_3] 49 (0, 0)) (by (with_reducible repeat (first | refine blk_drewN ?_ _ | refine blk_drew ?_ | refine blk_alloc ?_ _)); exact BK592.out)) : gb592 ≠ gb603)); have n6_ := Aside0.mk ((by rw [hg]; exact Nat.ne_of_gt (blk_lt (g := gb592) (o := .cells #[.int .u32 a0_0, .int .u16 a0_1, .int .i64 a0_2, .int .i64 a0_3] 49 (0, 0)) (by (with_reducible repeat (first | refine blk_drewN ?_ _ | refine blk_drew ?_ | refine blk_alloc ?_ _)); exact BK592.out)) : gb603 ≠ gb592)); clear BK592; clear HB; have BK592 := n0_; have HB := n1_; have BK603 := n2_; have GW603 := n3_; have GE603 := n4_; have NB592_603 := n5_; have NB603_592 := n6_; clear n0_ n1_ n2_ n3_ n4_ n5_ n6_; clear hb hbox hg; have hnb26 := NB603_592.out; have hnc26 := NB592_603.out; have hcz27_0 : w25.cell? ⟨gb603, 0, none⟩ = some (.int .u32 0) := (blk_cell BK603.out 0).trans rfl; have hcz27_1 : w25.cell? ⟨gb603, 1, none⟩ = some (.int .u16 0) := (blk_cell BK603.out 1).trans rfl; have hcz27_2 : w25.cell? ⟨gb603, 2, none⟩ = some (.int .i64 0) := (blk_cell BK603.out 2).trans rfl; have hcz27_3 : w25.cell? ⟨gb603, 3, none⟩ = some (.int .i64 0) := (blk_cell BK603.out 3).trans rfl; have hfz27_0 := blk_frozen BK603.out 0; have hfz27_1 := blk_frozen BK603.out 1; have hfz27_2 := blk_frozen BK603.out 2; have hfz27_3 := blk_frozen BK603.out 3) | ((with_reducible refine gate_callee (f := 40) rfl ?_); refine goesL_ (some 37) rfl rfl Tryd.func40 (by kernel_rfl) rfl #[.string (a1.extract 0 ((ji4) : Int).toNat)] rfl (by (try simp only [List.map_toArray, List.map_cons, List.map_nil]); first | done | (simp only [hji4]; rfl) | rfl | (simp only [List.length_drop, List.length_take]; rfl)) ?_; (with_reducible refine (bazaarref15_Parse.calls k (a1.extract 0 ((ji4) : Int).toNat) t604 t605 t606 t607 t608 _ ?side1 A10.out).mono ?_); (case side1 => exact Laid_below HLD.out (by repeat (first | (with_reducible first | exact HB.out | apply below_alloc | apply pw_below_drewN | apply below_drew1 | refine below_set ?_ GE592.out | refine below_set ?_ GE603.out) | exact HB.out))); rintro e w28 ⟨rfl, hb⟩; refine ⟨_, rfl, ?_⟩; have n0_ := Aside0.mk (blk_below (g := gb592) (o := .cells #[.int .u32 a0_0, .int .u16 a0_1, .int .i64 a0_2, .int .i64 a0_3] 49 (0, 0)) (by (with_reducible repeat (first | refine blk_drewN ?_ _ | refine blk_drew ?_ | refine blk_alloc ?_ _)); refine blk_far ?_ NB592_603.out _; (with_reducible repeat (first | refine blk_drewN ?_ _ | refine blk_drew ?_ | refine blk_alloc ?_ _)); refine blk_far ?_ NB592_603.out _; (with_reducible repeat (first | refine blk_drewN ?_ _ | refine blk_drew ?_ | refine blk_alloc ?_ _)); refine blk_far ?_ NB592_603.out _; (with_reducible repeat (first | refine blk_drewN ?_ _ | refine blk_drew ?_ | refine blk_alloc ?_ _)); refine blk_far ?_ NB592_603.out _; (with_reducible repeat (first | refine blk_drewN ?_ _ | refine blk_drew ?_ | refine blk_alloc ?_ _)); exact BK592.out) hb); have n1_ := Aside0.mk (blk_below (g := gb603) (o := .cells #[.int .u32 t598, .int .u16 t599, .int .i64 t600, .int .i64 t601] 49 (0, 0)) (by (with_reducible repeat (first | refine blk_drewN ?_ _ | refine blk_drew ?_ | refine blk_alloc ?_ _)); refine blk_put (cs := #[.int .u32 t598, .int .u16 t599, .int .i64 t600, .int .i64 0]) ?_ 3 _ rfl; (with_reducible repeat (first | refine blk_drewN ?_ _ | refine blk_drew ?_ | refine blk_alloc ?_ _)); refine blk_put (cs := #[.int .u32 t598, .int .u16 t599, .int .i64 0, .int .i64 0]) ?_ 2 _ rfl; (with_reducible repeat (first | refine blk_drewN ?_ _ | refine blk_drew ?_ | refine blk_alloc ?_ _)); refine blk_put (cs := #[.int .u32 t598, .int .u16 0, .int .i64 0, .int .i64 0]) ?_ 1 _ rfl; (with_reducible repeat (first | refine blk_drewN ?_ _ | refine blk_drew ?_ | refine blk_alloc ?_ _)); refine blk_put (cs := #[.int .u32 0, .int .u16 0, .int .i64 0, .int .i64 0]) ?_ 0 _ rfl; (with_reducible repeat (first | refine blk_drewN ?_ _ | refine blk_drew ?_ | refine blk_alloc ?_ _)); exact BK603.out) hb); have n2_ := Aside0.mk (below_step (by repeat (first | (with_reducible first | exact HB.out | apply below_alloc | apply pw_below_drewN | apply below_drew1 | refine below_set ?_ GE592.out | refine below_set ?_ GE603.out) | exact HB.out)) hb); clear BK592; clear BK603; clear HB; have BK592 := n0_; have BK603 := n1_; have HB := n2_; clear n0_ n1_ n2_; (try clear hb); (try clear hb2); (try clear hk); (try clear hi)) | ((with_reducible refine gate_dst (N := 12) rfl ?_); refine box_event ?hg (N := 12) ?hd (cs := #[.int .u32 0, .int .u16 0, .int .i64 0, .int .i64 0]) (t := 49) ?hr ?_; (case hd => rfl); (case hg => rfl); (case hr => first | (go_simp; done) | (go_simp; rfl)); intro gb609 hg w29 hbox hb; have n0_ := Aside0.mk (blk_below (g := gb592) (o := .cells #[.int .u32 a0_0, .int .u16 a0_1, .int .i64 a0_2, .int .i64 a0_3] 49 (0, 0)) (by (with_reducible repeat (first | refine blk_drewN ?_ _ | refine blk_drew ?_ | refine blk_alloc ?_ _)); exact BK592.out) hb); have n1_ := Aside0.mk (blk_below (g := gb603) (o := .cells #[.int .u32 t598, .int .u16 t599, .int .i64 t600, .int .i64 t601] 49 (0, 0)) (by (with_reducible repeat (first | refine blk_drewN ?_ _ | refine blk_drew ?_ | refine blk_alloc ?_ _)); exact BK603.out) hb); have n2_ := Aside0.mk (below_step (by repeat (first | (with_reducible first | exact HB.out | apply below_alloc | apply pw_below_drewN | apply below_drew1 | refine below_set ?_ GE592.out | refine below_set ?_ GE603.out) | exact HB.out)) hb); have n3_ := Aside0.mk (hbox); have n4_ := Aside0.mk ((by rw [hg]; exact (below_size (by repeat (first | (with_reducible first | exact HB.out | apply below_alloc | apply pw_below_drewN | apply below_drew1 | refine below_set ?_ GE592.out | refine below_set ?_ GE603.out) | exact HB.out))) : w.heap.size ≤ gb609)); have n5_ := Aside0.mk ((by rw [hg]; exact (below_size (by repeat (first | (with_reducible first | exact HB.out | apply below_alloc | apply pw_below_drewN | apply below_drew1 | refine below_set ?_ GE592.out | refine below_set ?_ GE603.out) | exact HB.out))) : w.heap.size ≤ gb609)); have n6_ := Aside0.mk ((by rw [hg]; exact Nat.ne_of_lt (blk_lt (g := gb592) (o := .cells #[.int .u32 a0_0, .int .u16 a0_1, .int .i64 a0_2, .int .i64 a0_3] 49 (0, 0)) (by (with_reducible repeat (first | refine blk_drewN ?_ _ | refine blk_drew ?_ | refine blk_alloc ?_ _)); exact BK592.out)) : gb592 ≠ gb609)); have n7_ := Aside0.mk ((by rw [hg]; exact Nat.ne_of_gt (blk_lt (g := gb592) (o := .cells #[.int .u32 a0_0, .int .u16 a0_1, .int .i64 a0_2, .int .i64 a0_3] 49 (0, 0)) (by (with_reducible repeat (first | refine blk_drewN ?_ _ | refine blk_drew ?_ | refine blk_alloc ?_ _)); exact BK592.out)) : gb609 ≠ gb592)); have n8_ := Aside0.mk ((by rw [hg]; exact Nat.ne_of_lt (blk_lt (g := gb603) (o := .cells #[.int .u32 t598, .int .u16 t599, .int .i64 t600, .int .i64 t601] 49 (0, 0)) (by (with_reducible repeat (first | refine blk_drewN ?_ _ | refine blk_drew ?_ | refine blk_alloc ?_ _)); exact BK603.out)) : gb603 ≠ gb609)); have n9_ := Aside0.mk ((by rw [hg]; exact Nat.ne_of_gt (blk_lt (g := gb603) (o := .cells #[.int .u32 t598, .int .u16 t599, .int .i64 t600, .int .i64 t601] 49 (0, 0)) (by (with_reducible repeat (first | refine blk_drewN ?_ _ | refine blk_drew ?_ | refine blk_alloc ?_ _)); exact BK603.out)) : gb609 ≠ gb603)); clear BK592; clear BK603; clear HB; have BK592 := n0_; have BK603 := n1_; have HB := n2_; have BK609 := n3_; have GW609 := n4_; have GE609 := n5_; have NB592_609 := n6_; have NB609_592 := n7_; have NB603_609 := n8_; have NB609_603 := n9_; clear n0_ n1_ n2_ n3_ n4_ n5_ n6_ n7_ n8_ n9_; clear hb hbox hg; have hnb30 := NB609_592.out; have hnc30 := NB592_609.out; have hnb31 := NB609_603.out; have hnc31 := NB603_609.out; have hcz32_0 : w29.cell? ⟨gb609, 0, none⟩ = some (.int .u32 0) := (blk_cell BK609.out 0).trans rfl; have hcz32_1 : w29.cell? ⟨gb609, 1, none⟩ = some (.int .u16 0) := (blk_cell BK609.out 1).trans rfl; have hcz32_2 : w29.cell? ⟨gb609, 2, none⟩ = some (.int .i64 0) := (blk_cell BK609.out 2).trans rfl; have hcz32_3 : w29.cell? ⟨gb609, 3, none⟩ = some (.int .i64 0) := (blk_cell BK609.out 3).trans rfl; have hfz32_0 := blk_frozen BK609.out 0; have hfz32_1 := blk_frozen BK609.out 1; have hfz32_2 := blk_frozen BK609.out 2; have hfz32_3 := blk_frozen BK609.out 3))
                have n0_ : Aside0 (((((w29.setCell ⟨gb609, 0, none⟩ (.int .u32 t604)).setCell ⟨gb609, 1, none⟩ (.int .u16 t605)).setCell ⟨gb609, 2, none⟩ (.int .i64 t606)).setCell ⟨gb609, 3, none⟩ (.int .i64 t607)).heap[gb592]? = some (.cells #[.int .u32 a0_0, .int .u16 a0_1, .int .i64 a0_2, .int .i64 a0_3] 49 (0, 0))) := ⟨by (with_reducible repeat (first | refine blk_drewN ?_ _ | refine blk_drew ?_ | refine blk_alloc ?_ _)); refine blk_far ?_ NB592_609.out _; (with_reducible repeat (first | refine blk_drewN ?_ _ | refine blk_drew ?_ | refine blk_alloc ?_ _)); refine blk_far ?_ NB592_609.out _; (with_reducible repeat (first | refine blk_drewN ?_ _ | refine blk_drew ?_ | refine blk_alloc ?_ _)); refine blk_far ?_ NB592_609.out _; (with_reducible repeat (first | refine blk_drewN ?_ _ | refine blk_drew ?_ | refine blk_alloc ?_ _)); refine blk_far ?_ NB592_609.out _; (with_reducible repeat (first | refine blk_drewN ?_ _ | refine blk_drew ?_ | refine blk_alloc ?_ _)); exact BK592.out⟩
                have n1_ : Aside0 (((((w29.setCell ⟨gb609, 0, none⟩ (.int .u32 t604)).setCell ⟨gb609, 1, none⟩ (.int .u16 t605)).setCell ⟨gb609, 2, none⟩ (.int .i64 t606)).setCell ⟨gb609, 3, none⟩ (.int .i64 t607)).heap[gb603]? = some (.cells #[.int .u32 t598, .int .u16 t599, .int .i64 t600, .int .i64 t601] 49 (0, 0))) := ⟨by (with_reducible repeat (first | refine blk_drewN ?_ _ | refine blk_drew ?_ | refine blk_alloc ?_ _)); refine blk_far ?_ NB603_609.out _; (with_reducible repeat (first | refine blk_drewN ?_ _ | refine blk_drew ?_ | refine blk_alloc ?_ _)); refine blk_far ?_ NB603_609.out _; (with_reducible repeat (first | refine blk_drewN ?_ _ | refine blk_drew ?_ | refine blk_alloc ?_ _)); refine blk_far ?_ NB603_609.out _; (with_reducible repeat (first | refine blk_drewN ?_ _ | refine blk_drew ?_ | refine blk_alloc ?_ _)); refine blk_far ?_ NB603_609.out _; (with_reducible repeat (first | refine blk_drewN ?_ _ | refine blk_drew ?_ | refine blk_alloc ?_ _)); exact BK603.out⟩
                have n2_ : Aside0 (((((w29.setCell ⟨gb609, 0, none⟩ (.int .u32 t604)).setCell ⟨gb609, 1, none⟩ (.int .u16 t605)).setCell ⟨gb609, 2, none⟩ (.int .i64 t606)).setCell ⟨gb609, 3, none⟩ (.int .i64 t607)).heap[gb609]? = some (.cells #[.int .u32 t604, .int .u16 t605, .int .i64 t606, .int .i64 t607] 49 (0, 0))) := ⟨by (with_reducible repeat (first | refine blk_drewN ?_ _ | refine blk_drew ?_ | refine blk_alloc ?_ _)); refine blk_put (cs := #[.int .u32 t604, .int .u16 t605, .int .i64 t606, .int .i64 0]) ?_ 3 _ rfl; (with_reducible repeat (first | refine blk_drewN ?_ _ | refine blk_drew ?_ | refine blk_alloc ?_ _)); refine blk_put (cs := #[.int .u32 t604, .int .u16 t605, .int .i64 0, .int .i64 0]) ?_ 2 _ rfl; (with_reducible repeat (first | refine blk_drewN ?_ _ | refine blk_drew ?_ | refine blk_alloc ?_ _)); refine blk_put (cs := #[.int .u32 t604, .int .u16 0, .int .i64 0, .int .i64 0]) ?_ 1 _ rfl; (with_reducible repeat (first | refine blk_drewN ?_ _ | refine blk_drew ?_ | refine blk_alloc ?_ _)); refine blk_put (cs := #[.int .u32 0, .int .u16 0, .int .i64 0, .int .i64 0]) ?_ 0 _ rfl; (with_reducible repeat (first | refine blk_drewN ?_ _ | refine blk_drew ?_ | refine blk_alloc ?_ _)); exact BK609.out⟩
                have n3_ : Aside0 (Below w.heap.size w ((((w29.setCell ⟨gb609, 0, none⟩ (.int .u32 t604)).setCell ⟨gb609, 1, none⟩ (.int .u16 t605)).setCell ⟨gb609, 2, none⟩ (.int .i64 t606)).setCell ⟨gb609, 3, none⟩ (.int .i64 t607))) := ⟨by repeat (first | (with_reducible first | exact HB.out | apply below_alloc | apply pw_below_drewN | apply below_drew1 | refine below_set ?_ GE592.out | refine below_set ?_ GE603.out | refine below_set ?_ GE609.out) | exact HB.out)⟩
                (try clear BK592)
                (try clear BK603)
                (try clear BK609)
                (try clear HB)
                generalize ((((w29.setCell ⟨gb609, 0, none⟩ (.int .u32 t604)).setCell ⟨gb609, 1, none⟩ (.int .u16 t605)).setCell ⟨gb609, 2, none⟩ (.int .i64 t606)).setCell ⟨gb609, 3, none⟩ (.int .i64 t607)) = w33 at n0_ n1_ n2_ n3_ ⊢
                have BK592 := n0_
                have BK603 := n1_
                have BK609 := n2_
                have HB := n3_
                clear n0_ n1_ n2_ n3_
                have n0_ := Aside0.mk (blk_drew BK592.out)
                have n1_ := Aside0.mk (blk_drew BK603.out)
                have n2_ := Aside0.mk (blk_drew BK609.out)
                have n3_ := Aside0.mk (below_drew1 HB.out)
                clear BK592
                clear BK603
                clear BK609
                clear HB
                have BK592 := n0_
                have BK603 := n1_
                have BK609 := n2_
                have HB := n3_
                clear n0_ n1_ n2_ n3_
                refine start_ (n := 29) (S := fun w' => w'.cell? ⟨gb592, 0, none⟩ = some (.int .u32 a0_0) ∧ w'.cell? ⟨gb592, 1, none⟩ = some (.int .u16 a0_1) ∧ w'.cell? ⟨gb592, 2, none⟩ = some (.int .i64 a0_2) ∧ w'.cell? ⟨gb592, 3, none⟩ = some (.int .i64 a0_3) ∧ w'.cell? ⟨gb603, 0, none⟩ = some (.int .u32 t598) ∧ w'.cell? ⟨gb603, 1, none⟩ = some (.int .u16 t599) ∧ w'.cell? ⟨gb603, 2, none⟩ = some (.int .i64 t600) ∧ w'.cell? ⟨gb603, 3, none⟩ = some (.int .i64 t601) ∧ w'.cell? ⟨gb609, 0, none⟩ = some (.int .u32 t604) ∧ w'.cell? ⟨gb609, 1, none⟩ = some (.int .u16 t605) ∧ w'.cell? ⟨gb609, 2, none⟩ = some (.int .i64 t606) ∧ w'.cell? ⟨gb609, 3, none⟩ = some (.int .i64 t607)) (ds := []) #[false, false, false, false, false, false, false, false, false, false, false, false, false, false, false, false, false, false, false, false, false, false, false, false, false, false, false, false, false] (by kernel_rfl) rfl rfl ⟨(blk_cell BK592.out 0).trans rfl, (blk_cell BK592.out 1).trans rfl, (blk_cell BK592.out 2).trans rfl, (blk_cell BK592.out 3).trans rfl, (blk_cell BK603.out 0).trans rfl, (blk_cell BK603.out 1).trans rfl, (blk_cell BK603.out 2).trans rfl, (blk_cell BK603.out 3).trans rfl, (blk_cell BK609.out 0).trans rfl, (blk_cell BK609.out 1).trans rfl, (blk_cell BK609.out 2).trans rfl, (blk_cell BK609.out 3).trans rfl⟩ (fun hHeld => ?_); refine with_tabW bazaarlaw15_ShopBytes.tab7 bazaarlaw15_ShopBytes.bits7 (fun HT_ HW_ => ?_)
                generalize w33.drew = w34 at BK592 BK603 BK609 HB hHeld ⊢
                refine pure_ (i := 0) (N := some 40) (v := ?_) (a' := ?_) #[true, false, false, false, false, false, false, false, false, false, false, false, false, false, false, false, false, false, false, false, false, false, false, false, false, false, false, false, false] rfl rfl (any_of HT_.out (by kernel_rfl)) (fun _ _ _ h => h) (Or.inl ⟨by rfl, ?_⟩) ?_ ?_
                rotate_left
                · intro w'
                  go_simp
                  with_reducible rfl
                rotate_left
                · simp only [Act.put, List.setIfInBounds_toArray, List.set_cons_zero, List.set_cons_succ, i64_w, i32_w]
                  rfl
                refine pure_ (i := 1) (N := some 41) (v := ?_) (a' := ?_) #[true, true, false, false, false, false, false, false, false, false, false, false, false, false, false, false, false, false, false, false, false, false, false, false, false, false, false, false, false] rfl rfl (any_of HT_.out (by kernel_rfl)) (fun _ _ _ h => h) (Or.inl ⟨by rfl, ?_⟩) ?_ ?_
                rotate_left
                · intro w'
                  go_simp
                  with_reducible rfl
                rotate_left
                · simp only [Act.put, List.setIfInBounds_toArray, List.set_cons_zero, List.set_cons_succ, i64_w, i32_w]
                  rfl
                refine take_ (i := 2) (N := some 42) (v := ?_) (a' := ?_) #[true, true, true, false, false, false, false, false, false, false, false, false, false, false, false, false, false, false, false, false, false, false, false, false, false, false, false, false, false] rfl rfl (take_ofW HT_.out HW_.out (by kernel_rfl)) (fun _ _ _ h => h) (Or.inl ⟨by rfl, ?_⟩) hHeld ?_ ?_
                rotate_left
                · rintro w' ⟨s0, s1, s2, s3, s4, s5, s6, s7, s8, s9, s10, s11⟩
                  go_simp
                  with_reducible rfl
                rotate_left
                · simp only [Act.put, List.setIfInBounds_toArray, List.set_cons_zero, List.set_cons_succ, i64_w, i32_w]
                  rfl
                refine take_ (i := 4) (N := some 44) (v := ?_) (a' := ?_) #[true, true, true, false, true, false, false, false, false, false, false, false, false, false, false, false, false, false, false, false, false, false, false, false, false, false, false, false, false] rfl rfl (take_ofW HT_.out HW_.out (by kernel_rfl)) (fun _ _ _ h => h) (Or.inl ⟨by rfl, ?_⟩) hHeld ?_ ?_
                rotate_left
                · rintro w' ⟨s0, s1, s2, s3, s4, s5, s6, s7, s8, s9, s10, s11⟩
                  go_simp
                  with_reducible rfl
                rotate_left
                · simp only [Act.put, List.setIfInBounds_toArray, List.set_cons_zero, List.set_cons_succ, i64_w, i32_w]
                  rfl
                refine one_ (i := 3) (N := some 43) #[true, true, true, true, true, false, false, false, false, false, false, false, false, false, false, false, false, false, false, false, false, false, false, false, false, false, false, false, false] rfl rfl (one_of HT_.out (by kernel_rfl)) (by decide) (fun K hK => ?_)
                refine goes_ Tryd.func41 (by kernel_rfl) rfl #[.agg #[.int .u32 a0_0, .int .u16 a0_1, .int .i64 a0_2, .int .i64 a0_3]] (by rfl) rfl rfl (by (try simp only [List.map_toArray, List.map_cons, List.map_nil]); first | done | rfl | (simp only [List.length_drop, List.length_take]; rfl)) ?_
                with_reducible refine (shop_Right.calls k a0_0 a0_1 a0_2 a0_3 t610 _ ?side1 A12.out).mono ?_
                (case side1 => exact Laid_below HLD.out (by repeat (first | (with_reducible first | exact HB.out | apply below_alloc | apply pw_below_drewN | apply below_drew1 | refine below_set ?_ GE592.out | refine below_set ?_ GE603.out | refine below_set ?_ GE609.out) | exact HB.out)))
                rintro e w35 ⟨rfl, hb⟩
                refine ⟨_, rfl, ?_⟩
                have n0_ := Aside0.mk (blk_below (g := gb592) (o := .cells #[.int .u32 a0_0, .int .u16 a0_1, .int .i64 a0_2, .int .i64 a0_3] 49 (0, 0)) (by (with_reducible repeat (first | refine blk_drewN ?_ _ | refine blk_drew ?_ | refine blk_alloc ?_ _)); exact BK592.out) hb)
                have n1_ := Aside0.mk (blk_below (g := gb603) (o := .cells #[.int .u32 t598, .int .u16 t599, .int .i64 t600, .int .i64 t601] 49 (0, 0)) (by (with_reducible repeat (first | refine blk_drewN ?_ _ | refine blk_drew ?_ | refine blk_alloc ?_ _)); exact BK603.out) hb)
                have n2_ := Aside0.mk (blk_below (g := gb609) (o := .cells #[.int .u32 t604, .int .u16 t605, .int .i64 t606, .int .i64 t607] 49 (0, 0)) (by (with_reducible repeat (first | refine blk_drewN ?_ _ | refine blk_drew ?_ | refine blk_alloc ?_ _)); exact BK609.out) hb)
                have n3_ := Aside0.mk (below_step (by repeat (first | (with_reducible first | exact HB.out | apply below_alloc | apply pw_below_drewN | apply below_drew1 | refine below_set ?_ GE592.out | refine below_set ?_ GE603.out | refine below_set ?_ GE609.out) | exact HB.out)) hb)
                clear BK592
                clear BK603
                clear BK609
                clear HB
                have BK592 := n0_
                have BK603 := n1_
                have BK609 := n2_
                have HB := n3_
                clear n0_ n1_ n2_ n3_
                (try clear hb)
                (try clear hb2)
                (try clear hk)
                (try clear hi)
                refine hK.out _ _ ⟨(blk_cell BK592.out 0).trans rfl, (blk_cell BK592.out 1).trans rfl, (blk_cell BK592.out 2).trans rfl, (blk_cell BK592.out 3).trans rfl, (blk_cell BK603.out 0).trans rfl, (blk_cell BK603.out 1).trans rfl, (blk_cell BK603.out 2).trans rfl, (blk_cell BK603.out 3).trans rfl, (blk_cell BK609.out 0).trans rfl, (blk_cell BK609.out 1).trans rfl, (blk_cell BK609.out 2).trans rfl, (blk_cell BK609.out 3).trans rfl⟩ (fun hHeld => ?_)
                clear hK K
                refine norm_ (a' := ?_) ?_ ?_
                rotate_left
                · show Act.put _ (some 43) _ = _
                  simp only [Act.put, List.setIfInBounds_toArray, List.set_cons_zero, List.set_cons_succ, i64_w, i32_w]
                  rfl
                refine one_ (i := 5) (N := some 45) #[true, true, true, true, true, true, false, false, false, false, false, false, false, false, false, false, false, false, false, false, false, false, false, false, false, false, false, false, false] rfl rfl (one_of HT_.out (by kernel_rfl)) (by decide) (fun K hK => ?_)
                refine goes_ Tryd.func42 (by kernel_rfl) rfl #[.agg #[.int .u32 a0_0, .int .u16 a0_1, .int .i64 a0_2, .int .i64 a0_3]] (by rfl) rfl rfl (by (try simp only [List.map_toArray, List.map_cons, List.map_nil]); first | done | rfl | (simp only [List.length_drop, List.length_take]; rfl)) ?_
                with_reducible refine (bazaarref15_Right.calls a0_0 a0_1 a0_2 a0_3 t611 _ ?side1 A13.out).mono ?_
                (case side1 => exact Laid_below HLD.out (by repeat (first | (with_reducible first | exact HB.out | apply below_alloc | apply pw_below_drewN | apply below_drew1 | refine below_set ?_ GE592.out | refine below_set ?_ GE603.out | refine below_set ?_ GE609.out) | exact HB.out)))
                rintro e w36 ⟨rfl, hb⟩
                refine ⟨_, rfl, ?_⟩
                have n0_ := Aside0.mk (blk_below (g := gb592) (o := .cells #[.int .u32 a0_0, .int .u16 a0_1, .int .i64 a0_2, .int .i64 a0_3] 49 (0, 0)) (by (with_reducible repeat (first | refine blk_drewN ?_ _ | refine blk_drew ?_ | refine blk_alloc ?_ _)); exact BK592.out) hb)
                have n1_ := Aside0.mk (blk_below (g := gb603) (o := .cells #[.int .u32 t598, .int .u16 t599, .int .i64 t600, .int .i64 t601] 49 (0, 0)) (by (with_reducible repeat (first | refine blk_drewN ?_ _ | refine blk_drew ?_ | refine blk_alloc ?_ _)); exact BK603.out) hb)
                have n2_ := Aside0.mk (blk_below (g := gb609) (o := .cells #[.int .u32 t604, .int .u16 t605, .int .i64 t606, .int .i64 t607] 49 (0, 0)) (by (with_reducible repeat (first | refine blk_drewN ?_ _ | refine blk_drew ?_ | refine blk_alloc ?_ _)); exact BK609.out) hb)
                have n3_ := Aside0.mk (below_step (by repeat (first | (with_reducible first | exact HB.out | apply below_alloc | apply pw_below_drewN | apply below_drew1 | refine below_set ?_ GE592.out | refine below_set ?_ GE603.out | refine below_set ?_ GE609.out) | exact HB.out)) hb)
                clear BK592
                clear BK603
                clear BK609
                clear HB
                have BK592 := n0_
                have BK603 := n1_
                have BK609 := n2_
                have HB := n3_
                clear n0_ n1_ n2_ n3_
                (try clear hb)
                (try clear hb2)
                (try clear hk)
                (try clear hi)
                refine hK.out _ _ ⟨(blk_cell BK592.out 0).trans rfl, (blk_cell BK592.out 1).trans rfl, (blk_cell BK592.out 2).trans rfl, (blk_cell BK592.out 3).trans rfl, (blk_cell BK603.out 0).trans rfl, (blk_cell BK603.out 1).trans rfl, (blk_cell BK603.out 2).trans rfl, (blk_cell BK603.out 3).trans rfl, (blk_cell BK609.out 0).trans rfl, (blk_cell BK609.out 1).trans rfl, (blk_cell BK609.out 2).trans rfl, (blk_cell BK609.out 3).trans rfl⟩ (fun hHeld => ?_)
                clear hK K
                refine norm_ (a' := ?_) ?_ ?_
                rotate_left
                · show Act.put _ (some 45) _ = _
                  simp only [Act.put, List.setIfInBounds_toArray, List.set_cons_zero, List.set_cons_succ, i64_w, i32_w]
                  rfl
                refine pure_ (i := 6) (N := some 46) (v := ?_) (a' := ?_) #[true, true, true, true, true, true, true, false, false, false, false, false, false, false, false, false, false, false, false, false, false, false, false, false, false, false, false, false, false] rfl rfl (any_of HT_.out (by kernel_rfl)) (fun _ _ _ h => h) (Or.inl ⟨by rfl, ?_⟩) ?_ ?_
                rotate_left
                · intro w'
                  go_simp
                  with_reducible rfl
                rotate_left
                · simp only [Act.put, List.setIfInBounds_toArray, List.set_cons_zero, List.set_cons_succ, i64_w, i32_w]
                  rfl
                refine pure_ (i := 7) (N := some 47) (v := ?_) (a' := ?_) #[true, true, true, true, true, true, true, true, false, false, false, false, false, false, false, false, false, false, false, false, false, false, false, false, false, false, false, false, false] rfl rfl (any_of HT_.out (by kernel_rfl)) (fun _ _ _ h => h) (Or.inl ⟨by rfl, ?_⟩) ?_ ?_
                rotate_left
                · intro w'
                  go_simp
                  with_reducible rfl
                rotate_left
                · simp only [Act.put, List.setIfInBounds_toArray, List.set_cons_zero, List.set_cons_succ, i64_w, i32_w]
                  rfl
                refine pure_ (i := 8) (N := some 48) (v := ?_) (a' := ?_) #[true, true, true, true, true, true, true, true, true, false, false, false, false, false, false, false, false, false, false, false, false, false, false, false, false, false, false, false, false] rfl rfl (any_of HT_.out (by kernel_rfl)) (fun _ _ _ h => h) (Or.inl ⟨by rfl, ?_⟩) ?_ ?_
                rotate_left
                · intro w'
                  go_simp
                  with_reducible rfl
                rotate_left
                · simp only [Act.put, List.setIfInBounds_toArray, List.set_cons_zero, List.set_cons_succ, i64_w, i32_w]
                  rfl
                refine pure_ (i := 9) (N := some 49) (v := ?_) (a' := ?_) #[true, true, true, true, true, true, true, true, true, true, false, false, false, false, false, false, false, false, false, false, false, false, false, false, false, false, false, false, false] rfl rfl (any_of HT_.out (by kernel_rfl)) (fun _ _ _ h => h) (Or.inl ⟨by rfl, ?_⟩) ?_ ?_
                rotate_left
                · intro w'
                  go_simp
                  with_reducible rfl
                rotate_left
                · simp only [Act.put, List.setIfInBounds_toArray, List.set_cons_zero, List.set_cons_succ, i64_w, i32_w]
                  rfl
                refine pure_ (i := 10) (N := some 50) (v := ?_) (a' := ?_) #[true, true, true, true, true, true, true, true, true, true, true, false, false, false, false, false, false, false, false, false, false, false, false, false, false, false, false, false, false] rfl rfl (any_of HT_.out (by kernel_rfl)) (fun _ _ _ h => h) (Or.inl ⟨by rfl, ?_⟩) ?_ ?_
                rotate_left
                · intro w'
                  go_simp
                  with_reducible rfl
                rotate_left
                · simp only [Act.put, List.setIfInBounds_toArray, List.set_cons_zero, List.set_cons_succ, i64_w, i32_w]
                  rfl
                refine pure_ (i := 11) (N := some 51) (v := ?_) (a' := ?_) #[true, true, true, true, true, true, true, true, true, true, true, true, false, false, false, false, false, false, false, false, false, false, false, false, false, false, false, false, false] rfl rfl (any_of HT_.out (by kernel_rfl)) (fun _ _ _ h => h) (Or.inl ⟨by rfl, ?_⟩) ?_ ?_
                rotate_left
                · intro w'
                  go_simp
                  with_reducible rfl
                rotate_left
                · simp only [Act.put, List.setIfInBounds_toArray, List.set_cons_zero, List.set_cons_succ, i64_w, i32_w]
                  rfl
                refine pure_ (i := 12) (N := some 52) (v := ?_) (a' := ?_) #[true, true, true, true, true, true, true, true, true, true, true, true, true, false, false, false, false, false, false, false, false, false, false, false, false, false, false, false, false] rfl rfl (any_of HT_.out (by kernel_rfl)) (fun _ _ _ h => h) (Or.inl ⟨by rfl, ?_⟩) ?_ ?_
                rotate_left
                · intro w'
                  go_simp
                  with_reducible rfl
                rotate_left
                · simp only [Act.put, List.setIfInBounds_toArray, List.set_cons_zero, List.set_cons_succ, i64_w, i32_w]
                  rfl
                refine pure_ (i := 13) (N := some 53) (v := ?_) (a' := ?_) #[true, true, true, true, true, true, true, true, true, true, true, true, true, true, false, false, false, false, false, false, false, false, false, false, false, false, false, false, false] rfl rfl (any_of HT_.out (by kernel_rfl)) (fun _ _ _ h => h) (Or.inl ⟨by rfl, ?_⟩) ?_ ?_
                rotate_left
                · intro w'
                  go_simp
                  with_reducible rfl
                rotate_left
                · simp only [Act.put, List.setIfInBounds_toArray, List.set_cons_zero, List.set_cons_succ, i64_w, i32_w]
                  rfl
                refine pure_ (i := 14) (N := some 54) (v := ?_) (a' := ?_) #[true, true, true, true, true, true, true, true, true, true, true, true, true, true, true, false, false, false, false, false, false, false, false, false, false, false, false, false, false] rfl rfl (any_of HT_.out (by kernel_rfl)) (fun _ _ _ h => h) (Or.inl ⟨by rfl, ?_⟩) ?_ ?_
                rotate_left
                · intro w'
                  go_simp
                  with_reducible rfl
                rotate_left
                · simp only [Act.put, List.setIfInBounds_toArray, List.set_cons_zero, List.set_cons_succ, i64_w, i32_w]
                  rfl
                refine pure_ (i := 15) (N := some 55) (v := ?_) (a' := ?_) #[true, true, true, true, true, true, true, true, true, true, true, true, true, true, true, true, false, false, false, false, false, false, false, false, false, false, false, false, false] rfl rfl (any_of HT_.out (by kernel_rfl)) (fun _ _ _ h => h) (Or.inl ⟨by rfl, ?_⟩) ?_ ?_
                rotate_left
                · intro w'
                  go_simp
                  with_reducible rfl
                rotate_left
                · simp only [Act.put, List.setIfInBounds_toArray, List.set_cons_zero, List.set_cons_succ, i64_w, i32_w]
                  rfl
                refine pure_ (i := 16) (N := some 56) (v := ?_) (a' := ?_) #[true, true, true, true, true, true, true, true, true, true, true, true, true, true, true, true, true, false, false, false, false, false, false, false, false, false, false, false, false] rfl rfl (any_of HT_.out (by kernel_rfl)) (fun _ _ _ h => h) (Or.inl ⟨by rfl, ?_⟩) ?_ ?_
                rotate_left
                · intro w'
                  go_simp
                  with_reducible rfl
                rotate_left
                · simp only [Act.put, List.setIfInBounds_toArray, List.set_cons_zero, List.set_cons_succ, i64_w, i32_w]
                  rfl
                refine pure_ (i := 17) (N := some 57) (v := ?_) (a' := ?_) #[true, true, true, true, true, true, true, true, true, true, true, true, true, true, true, true, true, true, false, false, false, false, false, false, false, false, false, false, false] rfl rfl (any_of HT_.out (by kernel_rfl)) (fun _ _ _ h => h) (Or.inl ⟨by rfl, ?_⟩) ?_ ?_
                rotate_left
                · intro w'
                  go_simp
                  with_reducible rfl
                rotate_left
                · simp only [Act.put, List.setIfInBounds_toArray, List.set_cons_zero, List.set_cons_succ, i64_w, i32_w]
                  rfl
                refine pure_ (i := 18) (N := some 58) (v := ?_) (a' := ?_) #[true, true, true, true, true, true, true, true, true, true, true, true, true, true, true, true, true, true, true, false, false, false, false, false, false, false, false, false, false] rfl rfl (any_of HT_.out (by kernel_rfl)) (fun _ _ _ h => h) (Or.inl ⟨by rfl, ?_⟩) ?_ ?_
                rotate_left
                · intro w'
                  go_simp
                  with_reducible rfl
                rotate_left
                · simp only [Act.put, List.setIfInBounds_toArray, List.set_cons_zero, List.set_cons_succ, i64_w, i32_w]
                  rfl
                refine take_ (i := 19) (N := some 59) (v := ?_) (a' := ?_) #[true, true, true, true, true, true, true, true, true, true, true, true, true, true, true, true, true, true, true, true, false, false, false, false, false, false, false, false, false] rfl rfl (take_ofW HT_.out HW_.out (by kernel_rfl)) (fun _ _ _ h => h) (Or.inl ⟨by rfl, ?_⟩) hHeld ?_ ?_
                rotate_left
                · rintro w' ⟨s0, s1, s2, s3, s4, s5, s6, s7, s8, s9, s10, s11⟩
                  go_simp
                  with_reducible rfl
                rotate_left
                · simp only [Act.put, List.setIfInBounds_toArray, List.set_cons_zero, List.set_cons_succ, i64_w, i32_w]
                  rfl
                refine take_ (i := 20) (N := some 60) (v := ?_) (a' := ?_) #[true, true, true, true, true, true, true, true, true, true, true, true, true, true, true, true, true, true, true, true, true, false, false, false, false, false, false, false, false] rfl rfl (take_ofW HT_.out HW_.out (by kernel_rfl)) (fun _ _ _ h => h) (Or.inl ⟨by rfl, ?_⟩) hHeld ?_ ?_
                rotate_left
                · rintro w' ⟨s0, s1, s2, s3, s4, s5, s6, s7, s8, s9, s10, s11⟩
                  go_simp
                  with_reducible rfl
                rotate_left
                · simp only [Act.put, List.setIfInBounds_toArray, List.set_cons_zero, List.set_cons_succ, i64_w, i32_w]
                  rfl
                refine pure_ (i := 21) (N := some 61) (v := ?_) (a' := ?_) #[true, true, true, true, true, true, true, true, true, true, true, true, true, true, true, true, true, true, true, true, true, true, false, false, false, false, false, false, false] rfl rfl (any_of HT_.out (by kernel_rfl)) (fun _ _ _ h => h) (Or.inl ⟨by rfl, ?_⟩) ?_ ?_
                rotate_left
                · intro w'
                  go_simp
                  with_reducible rfl
                rotate_left
                · simp only [Act.put, List.setIfInBounds_toArray, List.set_cons_zero, List.set_cons_succ, i64_w, i32_w]
                  rfl
                refine pure_ (i := 22) (N := some 62) (v := ?_) (a' := ?_) #[true, true, true, true, true, true, true, true, true, true, true, true, true, true, true, true, true, true, true, true, true, true, true, false, false, false, false, false, false] rfl rfl (any_of HT_.out (by kernel_rfl)) (fun _ _ _ h => h) (Or.inl ⟨by rfl, ?_⟩) ?_ ?_
                rotate_left
                · intro w'
                  go_simp
                  with_reducible rfl
                rotate_left
                · simp only [Act.put, List.setIfInBounds_toArray, List.set_cons_zero, List.set_cons_succ, i64_w, i32_w]
                  rfl
                refine pure_ (i := 23) (N := some 63) (v := ?_) (a' := ?_) #[true, true, true, true, true, true, true, true, true, true, true, true, true, true, true, true, true, true, true, true, true, true, true, true, false, false, false, false, false] rfl rfl (any_of HT_.out (by kernel_rfl)) (fun _ _ _ h => h) (Or.inl ⟨by rfl, ?_⟩) ?_ ?_
                rotate_left
                · intro w'
                  go_simp
                  with_reducible rfl
                rotate_left
                · simp only [Act.put, List.setIfInBounds_toArray, List.set_cons_zero, List.set_cons_succ, i64_w, i32_w]
                  rfl
                refine pure_ (i := 24) (N := some 64) (v := ?_) (a' := ?_) #[true, true, true, true, true, true, true, true, true, true, true, true, true, true, true, true, true, true, true, true, true, true, true, true, true, false, false, false, false] rfl rfl (any_of HT_.out (by kernel_rfl)) (fun _ _ _ h => h) (Or.inl ⟨by rfl, ?_⟩) ?_ ?_
                rotate_left
                · intro w'
                  go_simp
                  with_reducible rfl
                rotate_left
                · simp only [Act.put, List.setIfInBounds_toArray, List.set_cons_zero, List.set_cons_succ, i64_w, i32_w]
                  rfl
                refine pure_ (i := 25) (N := some 65) (v := ?_) (a' := ?_) #[true, true, true, true, true, true, true, true, true, true, true, true, true, true, true, true, true, true, true, true, true, true, true, true, true, true, false, false, false] rfl rfl (any_of HT_.out (by kernel_rfl)) (fun _ _ _ h => h) (Or.inl ⟨by rfl, ?_⟩) ?_ ?_
                rotate_left
                · intro w'
                  go_simp
                  with_reducible rfl
                rotate_left
                · simp only [Act.put, List.setIfInBounds_toArray, List.set_cons_zero, List.set_cons_succ, i64_w, i32_w]
                  rfl
                refine pure_ (i := 26) (N := some 66) (v := ?_) (a' := ?_) #[true, true, true, true, true, true, true, true, true, true, true, true, true, true, true, true, true, true, true, true, true, true, true, true, true, true, true, false, false] rfl rfl (any_of HT_.out (by kernel_rfl)) (fun _ _ _ h => h) (Or.inl ⟨by rfl, ?_⟩) ?_ ?_
                rotate_left
                · intro w'
                  go_simp
                  with_reducible rfl
                rotate_left
                · simp only [Act.put, List.setIfInBounds_toArray, List.set_cons_zero, List.set_cons_succ, i64_w, i32_w]
                  rfl
                refine pure_ (i := 27) (N := some 67) (v := ?_) (a' := ?_) #[true, true, true, true, true, true, true, true, true, true, true, true, true, true, true, true, true, true, true, true, true, true, true, true, true, true, true, true, false] rfl rfl (any_of HT_.out (by kernel_rfl)) (fun _ _ _ h => h) (Or.inl ⟨by rfl, ?_⟩) ?_ ?_
                rotate_left
                · intro w'
                  go_simp
                  with_reducible rfl
                rotate_left
                · simp only [Act.put, List.setIfInBounds_toArray, List.set_cons_zero, List.set_cons_succ, i64_w, i32_w]
                  rfl
                refine pure_ (i := 28) (N := some 4) (v := ?_) (a' := ?_) #[true, true, true, true, true, true, true, true, true, true, true, true, true, true, true, true, true, true, true, true, true, true, true, true, true, true, true, true, true] rfl rfl (any_of HT_.out (by kernel_rfl)) (fun _ _ _ h => h) (Or.inl ⟨by rfl, ?_⟩) ?_ ?_
                rotate_left
                · intro w'
                  go_simp
                  with_reducible rfl
                rotate_left
                · simp only [Act.put, List.setIfInBounds_toArray, List.set_cons_zero, List.set_cons_succ, i64_w, i32_w]
                  rfl
                refine done_ (done_of HT_.out (by kernel_rfl)) ?_
                try go_wp2
                go_ret
                exact ⟨by first | rfl | (simp [errW_none, errW_some] <;> rfl) | (simp only [← hji4]; first | rfl | (simp [errW_none, errW_some] <;> rfl)) | (simp [*, errW_none, errW_some] <;> rfl), by repeat (first | (with_reducible first | exact HB.out | apply below_alloc | apply pw_below_drewN | apply below_drew1 | refine below_set ?_ GE592.out | refine below_set ?_ GE603.out | refine below_set ?_ GE609.out) | exact HB.out)⟩
              · rw [if_neg c17] at H
                have c17b0 : (t598 == t604 && ((t599 == t605 && (t600 == t606)) && (t601 == t607))) = false := by simpa using c17
                (try (have c17b1 : decide (t598 = t604 && ((t599 == t605 && (t600 == t606)) && (t601 == t607))) = false := by simpa using c17))
                (try (have c17b2 : (t598 == t604 && ((t599 == t605 && (t600 == t606)) && (t601 == t607))) = false := by simpa using c17))
                (try (have c17b3 : ¬ (t598 = t604 && ((t599 == t605 && (t600 == t606)) && (t601 == t607))) := by simpa using c17))
                clear c17
                obtain rfl := Option.some.inj H
                exact absurd HTR_.out (by decide)
            · rw [if_neg c16] at H
              have c16b0 : (t595 == t597) = false := beq_eq_false_iff_ne.mpr c16
              have c16b1 : (t595 != t597) = true := bne_iff_ne.mpr c16
              obtain rfl := Option.some.inj H
              exact absurd HTR_.out (by decide)
          · rw [if_neg c15] at H
            have c15b0 : (t594.toList == t596.toList) = false := beq_eq_false_iff_ne.mpr c15
            have c15b1 : (t594.toList != t596.toList) = true := bne_iff_ne.mpr c15
            obtain rfl := Option.some.inj H
            exact absurd HTR_.out (by decide)
        · rw [if_neg c14] at H
          have c14b0 : (t610 == t611) = false := by simpa using c14
          (try (have c14b1 : decide (t610 = t611) = false := by simpa using c14))
          (try (have c14b2 : (t610 == t611) = false := by simpa using c14))
          (try (have c14b3 : ¬ (t610 = t611) := by simpa using c14))
          clear c14
          obtain rfl := Option.some.inj H
          exact absurd HTR_.out (by decide)
      · replace c11 := Bool.eq_false_iff.mpr c11
        subst c11
        have H1 : (some false) = some r := by rw [if_neg (show ¬ (false = true) by decide)] at H; exact H
        clear H
        have H := H1
        clear H1
        obtain rfl := Option.some.inj H
        exact absurd HTR_.out (by decide)
    · rw [if_neg c6] at H
      exact absurd H (by simp)
  · rw [if_neg c5] at H
    exact absurd H (by simp)

end Go.Proofs.YtoclldkgkmhgaaaDoor.K
