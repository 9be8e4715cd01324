-- Printed by a program of this session (a turned copy of the print); what it takes as given stands in the seat's own texts.
import Derived.Test.YtfncbcbhhddnpaaDoorKx0
import Derived.Test.YtfncbcbhhddnpaaDoorKx6
import Derived.Test.YtfncbcbhhddnpaaDoorGiven
namespace Go.Proofs.YtfncbcbhhddnpaaDoor.K
open Go.RowKit Go.Proofs.YtfncbcbhhddnpaaDoorW.PrintWords Go.Proofs.YtfncbcbhhddnpaaDoorW.PrintLast Go.Proofs.YtfncbcbhhddnpaaDoorW.PrintMore
attribute [local go_sem] max2_int min2_int max_two min_two max_three min_three max_four min_four   -- for this text's walks alone
set_option linter.unusedVariables false
set_option linter.unusedSimpArgs false

/-! ### bazaarlaw11_MoneyKeeps: function 3 -/
def bazaarlaw11_MoneyKeeps.j0 : Nat → Int → Int → Bool → Bool → Option (Bool)
  | 0, _, _, _, _ => none
  | k + 1, x0, x2, x7, x42 => if x42 = true then (some false) else ((money_Add.f x0 x2).bind fun bt114 => ((money_Sub.f bt114.1 x2).bind fun bt116 => (if x7 = true then (if bt114.2 = 0 then (if bt116.2 = 0 then (some (bt116.1 == x0)) else (some false)) else (some true)) else (some false))))
def bazaarlaw11_MoneyKeeps.f (k : Nat) (a0 : Int) (a1 : Int) (a2 : Int) : Option (Bool) := (bazaarlaw11_shown.f).bind fun t110 => ((money_Move.f a0 a1 a2).bind fun bt111 => (if bt111.2.2 = 0 then (if (wrap64 (bt111.1 + bt111.2.1)) = (wrap64 (a0 + a1)) then (if bt111.1 < 0 then (bazaarlaw11_MoneyKeeps.j0 k a0 a2 t110 true) else (bazaarlaw11_MoneyKeeps.j0 k a0 a2 t110 (decide (bt111.2.1 < 0)))) else (bazaarlaw11_MoneyKeeps.j0 k a0 a2 t110 true)) else (bazaarlaw11_MoneyKeeps.j0 k a0 a2 t110 false)))
theorem bazaarlaw11_MoneyKeeps.mono_l : ∀ k, (∀ y0 y1 y2 y3, LeO (bazaarlaw11_MoneyKeeps.j0 k y0 y1 y2 y3) (bazaarlaw11_MoneyKeeps.j0 (k + 1) y0 y1 y2 y3))
  | 0 => fun _ _ _ _ r h => by simp [bazaarlaw11_MoneyKeeps.j0] at h
  | k + 1 => by
    have ih0 := bazaarlaw11_MoneyKeeps.mono_l k
    · intro y0 y1 y2 y3
      unfold bazaarlaw11_MoneyKeeps.j0
      repeat' first
      | (with_reducible exact ih0 _ _ _ _)
      | (with_reducible exact LeO.refl _)
      | (with_reducible exact LeO.none _)
      | (with_reducible refine LeO.ite ?_ ?_)
      | (with_reducible refine LeO.bind ?_ (fun _ => ?_))
      | exact ih0 _ _ _ _
      | exact LeO.none _
      | refine LeO.ite ?_ ?_
      | refine LeO.bind ?_ (fun _ => ?_)
theorem bazaarlaw11_MoneyKeeps.mono : ∀ a0 a1 a2 k, LeO (bazaarlaw11_MoneyKeeps.f k a0 a1 a2) (bazaarlaw11_MoneyKeeps.f (k + 1) a0 a1 a2) := by
  intro a0 a1 a2 k
  have ih0 := bazaarlaw11_MoneyKeeps.mono_l k
  unfold bazaarlaw11_MoneyKeeps.f
  repeat' first
      | (with_reducible exact ih0 _ _ _ _)
      | (with_reducible exact LeO.refl _)
      | (with_reducible exact LeO.none _)
      | (with_reducible refine LeO.ite ?_ ?_)
      | (with_reducible refine LeO.bind ?_ (fun _ => ?_))
      | exact ih0 _ _ _ _
      | exact LeO.none _
      | refine LeO.ite ?_ ?_
      | refine LeO.bind ?_ (fun _ => ?_)
set_option maxHeartbeats 8000000 in
set_option maxRecDepth 100000 in
theorem bazaarlaw11_MoneyKeeps.calls (k : Nat) (a0 : Int) (a1 : Int) (a2 : Int) (r : Bool) (w : World) (hL : Laid w) (h : bazaarlaw11_MoneyKeeps.f k a0 a1 a2 = some r) :
    Calls Tryd.prog 3 #[.int .i64 a0, .int .i64 a1, .int .i64 a2] w fun e w' => e = .returned (.bool r) ∧ Below w.heap.size w w' := by
  have HLD := Aside0.mk hL
  clear hL
  have HB := Aside0.mk (Below.refl w.heap.size w)
  have H : ((bazaarlaw11_shown.f).bind fun t110 => ((money_Move.f a0 a1 a2).bind fun bt111 => (if bt111.2.2 = 0 then (if (wrap64 (bt111.1 + bt111.2.1)) = (wrap64 (a0 + a1)) then (if bt111.1 < 0 then (bazaarlaw11_MoneyKeeps.j0 k a0 a2 t110 true) else (bazaarlaw11_MoneyKeeps.j0 k a0 a2 t110 (decide (bt111.2.1 < 0)))) else (bazaarlaw11_MoneyKeeps.j0 k a0 a2 t110 true)) else (bazaarlaw11_MoneyKeeps.j0 k a0 a2 t110 false)))) = some r := h
  clear h
  replace H := Option.bind_eq_some_iff.mp H
  obtain ⟨t110, A40, H⟩ := H
  replace H : ((money_Move.f a0 a1 a2).bind fun bt111 => (if bt111.2.2 = 0 then (if (wrap64 (bt111.1 + bt111.2.1)) = (wrap64 (a0 + a1)) then (if bt111.1 < 0 then (bazaarlaw11_MoneyKeeps.j0 k a0 a2 t110 true) else (bazaarlaw11_MoneyKeeps.j0 k a0 a2 t110 (decide (bt111.2.1 < 0)))) else (bazaarlaw11_MoneyKeeps.j0 k a0 a2 t110 true)) else (bazaarlaw11_MoneyKeeps.j0 k a0 a2 t110 false))) = some r := H
  have A4 := Aside0.mk A40
  clear A40
  replace H := Option.bind_eq_some_iff.mp H
  obtain ⟨⟨t111, t112, t113⟩, A50, H⟩ := H
  replace H : (if t113 = 0 then (if (wrap64 (t111 + t112)) = (wrap64 (a0 + a1)) then (if t111 < 0 then (bazaarlaw11_MoneyKeeps.j0 k a0 a2 t110 true) else (bazaarlaw11_MoneyKeeps.j0 k a0 a2 t110 (decide (t112 < 0)))) else (bazaarlaw11_MoneyKeeps.j0 k a0 a2 t110 true)) else (bazaarlaw11_MoneyKeeps.j0 k a0 a2 t110 false)) = some r := H
  have A5 := Aside0.mk A50
  clear A50
  have HC6 := Aside0.mk H
  clear H
  go_enter Tryd.func3, Tryd.ntmps3
  go_upto_region 3 with (first | ((with_reducible refine gate_callee (f := 10) rfl ?_); refine goesL_ (some 15) rfl rfl Tryd.func10 (by kernel_rfl) rfl #[] rfl (by (try simp only [List.map_toArray, List.map_cons, List.map_nil]); first | done | rfl | (simp only [List.length_drop, List.length_take]; rfl)) ?_; (with_reducible refine (bazaarlaw11_shown.calls  t110 _ ?side1 A4.out).mono ?_); (case side1 => exact Laid_below HLD.out (by repeat (first | (with_reducible first | exact HB.out | apply below_alloc | apply pw_below_drewN | apply below_drew1) | exact HB.out))); rintro e w7 ⟨rfl, hb⟩; refine ⟨_, rfl, ?_⟩; have n0_ := Aside0.mk (below_step (by repeat (first | (with_reducible first | exact HB.out | apply below_alloc | apply pw_below_drewN | apply below_drew1) | exact HB.out)) hb); clear HB; have HB := n0_; clear n0_; (try clear hb); (try clear hb2); (try clear hk); (try clear hi)) | ((with_reducible refine gate_callee (f := 11) rfl ?_); refine goesL_ (some 20) rfl rfl Tryd.func11 (by kernel_rfl) rfl #[.int .i64 a0, .int .i64 a1, .int .i64 a2] rfl (by (try simp only [List.map_toArray, List.map_cons, List.map_nil]); first | done | rfl | (simp only [List.length_drop, List.length_take]; rfl)) ?_; (with_reducible refine (money_Move.calls a0 a1 a2 t111 t112 t113 _ ?side1 A5.out).mono ?_); (case side1 => exact Laid_below HLD.out (by repeat (first | (with_reducible first | exact HB.out | apply below_alloc | apply pw_below_drewN | apply below_drew1) | exact HB.out))); rintro e w8 ⟨rfl, hb⟩; refine ⟨_, rfl, ?_⟩; have n0_ := Aside0.mk (below_step (by repeat (first | (with_reducible first | exact HB.out | apply below_alloc | apply pw_below_drewN | apply below_drew1) | exact HB.out)) hb); clear HB; have HB := n0_; clear n0_; (try clear hb); (try clear hb2); (try clear hk); (try clear hi)))
  (try simp only [Act.put, List.setIfInBounds_toArray, List.set_cons_zero, List.set_cons_succ])
  go_cut [42] (fun v42 wc => ∃ (kq : Nat) (x42_5 : Bool), v42 = .bool x42_5 ∧ Aside0 (bazaarlaw11_MoneyKeeps.j0 kq a0 a2 t110 x42_5 = some r) ∧ Aside0 (kq ≤ k) ∧ Aside0 (Below w.heap.size w wc))
  case first =>
    have H := HC6.out
    clear HC6
    by_cases c9 : t113 = 0
    · rw [if_pos c9] at H
      have c9b0 : (t113 == 0) = true := beq_iff_eq.mpr c9
      have c9b1 : (t113 != 0) = false := bne_eq_false_iff_eq.mpr c9
      clear c9
      (first | rw [c9b0] | (simp only [i64_w, i32_w]; rw [c9b0]) | skip)
      by_cases c10 : (wrap64 (t111 + t112)) = (wrap64 (a0 + a1))
      · rw [if_pos c10] at H
        have c10b0 : ((wrap64 (t111 + t112)) == (wrap64 (a0 + a1))) = true := beq_iff_eq.mpr c10
        have c10b1 : ((wrap64 (t111 + t112)) != (wrap64 (a0 + a1))) = false := bne_eq_false_iff_eq.mpr c10
        clear c10
        by_cases c11 : t111 < 0
        · rw [if_pos c11] at H
          have c11b0 : decide (t111 < 0) = true := decide_eq_true c11
          clear c11
          have H' := Aside0.mk H
          clear H
          go_wp2
          go_meet
          case rel => exact ⟨_, (true), (by first | rfl | (simp; done) | (simp [*]; done)), H', ⟨by first | omega | exact Nat.le_refl _⟩, ⟨by repeat (first | (with_reducible first | exact HB.out | apply below_alloc | apply pw_below_drewN | apply below_drew1) | exact HB.out)⟩⟩
        · rw [if_neg c11] at H
          have c11b0 : decide (t111 < 0) = false := decide_eq_false c11
          clear c11
          have H' := Aside0.mk H
          clear H
          go_wp2
          go_meet
          case rel => exact ⟨_, (decide (t112 < 0)), (by first | rfl | (simp; done) | (simp [*]; done)), H', ⟨by first | omega | exact Nat.le_refl _⟩, ⟨by repeat (first | (with_reducible first | exact HB.out | apply below_alloc | apply pw_below_drewN | apply below_drew1) | exact HB.out)⟩⟩
      · rw [if_neg c10] at H
        have c10b0 : ((wrap64 (t111 + t112)) == (wrap64 (a0 + a1))) = false := beq_eq_false_iff_ne.mpr c10
        have c10b1 : ((wrap64 (t111 + t112)) != (wrap64 (a0 + a1))) = true := bne_iff_ne.mpr c10
        have H' := Aside0.mk H
        clear H
        go_wp2
        go_meet
        case rel => exact ⟨_, (true), (by first | rfl | (simp; done) | (simp [*]; done)), H', ⟨by first | omega | exact Nat.le_refl _⟩, ⟨by repeat (first | (with_reducible first | exact HB.out | apply below_alloc | apply pw_below_drewN | apply below_drew1) | exact HB.out)⟩⟩
    · rw [if_neg c9] at H
      have c9b0 : (t113 == 0) = false := beq_eq_false_iff_ne.mpr c9
      have c9b1 : (t113 != 0) = true := bne_iff_ne.mpr c9
      (first | rw [c9b0] | (simp only [i64_w, i32_w]; rw [c9b0]) | skip)
      have H' := Aside0.mk H
      clear H
      go_wp2
      go_meet
      case rel => exact ⟨_, (false), (by first | rfl | (simp; done) | (simp [*]; done)), H', ⟨by first | omega | exact Nat.le_refl _⟩, ⟨by repeat (first | (with_reducible first | exact HB.out | apply below_alloc | apply pw_below_drewN | apply below_drew1) | exact HB.out)⟩⟩
  case rest =>
    clear HC6
    try clear c1
    try clear p2
    try clear c3
    try clear p6
    try clear c9
    try clear c9b0
    try clear c9b1
    try clear c10
    try clear c10b0
    try clear c10b1
    try clear c11
    try clear c11b0
    obtain ⟨kq, x42_5, rfl, HA, HJ5, HB⟩ := hcut
    cases kq with
    | zero => exact absurd HA.out (by simp [bazaarlaw11_MoneyKeeps.j0])
    | succ kj5 =>
      have H := HA.out
      clear HA
      simp only [bazaarlaw11_MoneyKeeps.j0] at H
      by_cases c12 : x42_5 = true
      · subst c12
        have H1 : (some false) = some r := by rw [if_pos rfl] at H; exact H
        clear H
        have H := H1
        clear H1
        obtain rfl := Option.some.inj H
        go_wp2
        go_ret
        exact ⟨by first | rfl | (simp [errW_none, errW_some] <;> rfl) | (simp [*, errW_none, errW_some] <;> rfl), by repeat (first | (with_reducible first | exact HB.out | apply below_alloc | apply pw_below_drewN | apply below_drew1) | exact HB.out)⟩
      · replace c12 := Bool.eq_false_iff.mpr c12
        subst c12
        have H1 : ((money_Add.f a0 a2).bind fun bt114 => ((money_Sub.f bt114.1 a2).bind fun bt116 => (if t110 = true then (if bt114.2 = 0 then (if bt116.2 = 0 then (some (bt116.1 == a0)) else (some false)) else (some true)) else (some false)))) = some r := by rw [if_neg (show ¬ (false = true) by decide)] at H; exact H
        clear H
        have H := H1
        clear H1
        replace H := Option.bind_eq_some_iff.mp H
        obtain ⟨⟨t114, t115⟩, A130, H⟩ := H
        replace H : ((money_Sub.f t114 a2).bind fun bt116 => (if t110 = true then (if t115 = 0 then (if bt116.2 = 0 then (some (bt116.1 == a0)) else (some false)) else (some true)) else (some false))) = some r := H
        have A13 := Aside0.mk A130
        clear A130
        replace H := Option.bind_eq_some_iff.mp H
        obtain ⟨⟨t116, t117⟩, A140, H⟩ := H
        replace H : (if t110 = true then (if t115 = 0 then (if t117 = 0 then (some (t116 == a0)) else (some false)) else (some true)) else (some false)) = some r := H
        have A14 := Aside0.mk A140
        clear A140
        by_cases c15 : t110 = true
        · subst c15
          have H1 : (if t115 = 0 then (if t117 = 0 then (some (t116 == a0)) else (some false)) else (some true)) = some r := by rw [if_pos rfl] at H; exact H
          clear H
          have H := H1
          clear H1
          by_cases c16 : t115 = 0
          · rw [if_pos c16] at H
            have c16b0 : (t115 == 0) = true := beq_iff_eq.mpr c16
            have c16b1 : (t115 != 0) = false := bne_eq_false_iff_eq.mpr c16
            clear c16
            by_cases c17 : t117 = 0
            · rw [if_pos c17] at H
              have c17b0 : (t117 == 0) = true := beq_iff_eq.mpr c17
              have c17b1 : (t117 != 0) = false := bne_eq_false_iff_eq.mpr c17
              clear c17
              obtain rfl := Option.some.inj H
              go_wp2_with (first | ((with_reducible refine gate_callee (f := 12) rfl ?_); refine goesL_ (some 46) rfl rfl Tryd.func12 (by kernel_rfl) rfl #[.int .i64 a0, .int .i64 a2] rfl (by (try simp only [List.map_toArray, List.map_cons, List.map_nil]); first | done | rfl | (simp only [List.length_drop, List.length_take]; rfl)) ?_; (with_reducible refine (money_Add.calls a0 a2 t114 t115 _ ?side1 A13.out).mono ?_); (case side1 => exact Laid_below HLD.out (by repeat (first | (with_reducible first | exact HB.out | apply below_alloc | apply pw_below_drewN | apply below_drew1) | exact HB.out))); rintro e w18 ⟨rfl, hb⟩; refine ⟨_, rfl, ?_⟩; have n0_ := Aside0.mk (below_step (by repeat (first | (with_reducible first | exact HB.out | apply below_alloc | apply pw_below_drewN | apply below_drew1) | exact HB.out)) hb); clear HB; have HB := n0_; clear n0_; (try clear hb); (try clear hb2); (try clear hk); (try clear hi)) | ((with_reducible refine gate_callee (f := 13) rfl ?_); refine goesL_ (some 52) rfl rfl Tryd.func13 (by kernel_rfl) rfl #[.int .i64 t114, .int .i64 a2] rfl (by (try simp only [List.map_toArray, List.map_cons, List.map_nil]); first | done | rfl | (simp only [List.length_drop, List.length_take]; rfl)) ?_; (with_reducible refine (money_Sub.calls t114 a2 t116 t117 _ ?side1 A14.out).mono ?_); (case side1 => exact Laid_below HLD.out (by repeat (first | (with_reducible first | exact HB.out | apply below_alloc | apply pw_below_drewN | apply below_drew1) | exact HB.out))); rintro e w19 ⟨rfl, hb⟩; refine ⟨_, rfl, ?_⟩; have n0_ := Aside0.mk (below_step (by repeat (first | (with_reducible first | exact HB.out | apply below_alloc | apply pw_below_drewN | apply below_drew1) | exact HB.out)) hb); clear HB; have HB := n0_; clear n0_; (try clear hb); (try clear hb2); (try clear hk); (try clear hi)))
              go_ret
              exact ⟨by first | rfl | (simp [errW_none, errW_some] <;> rfl) | (simp [*, errW_none, errW_some] <;> rfl), by repeat (first | (with_reducible first | exact HB.out | apply below_alloc | apply pw_below_drewN | apply below_drew1) | exact HB.out)⟩
            · rw [if_neg c17] at H
              have c17b0 : (t117 == 0) = false := beq_eq_false_iff_ne.mpr c17
              have c17b1 : (t117 != 0) = true := bne_iff_ne.mpr c17
              obtain rfl := Option.some.inj H
              go_wp2_with (first | ((with_reducible refine gate_callee (f := 12) rfl ?_); refine goesL_ (some 46) rfl rfl Tryd.func12 (by kernel_rfl) rfl #[.int .i64 a0, .int .i64 a2] rfl (by (try simp only [List.map_toArray, List.map_cons, List.map_nil]); first | done | rfl | (simp only [List.length_drop, List.length_take]; rfl)) ?_; (with_reducible refine (money_Add.calls a0 a2 t114 t115 _ ?side1 A13.out).mono ?_); (case side1 => exact Laid_below HLD.out (by repeat (first | (with_reducible first | exact HB.out | apply below_alloc | apply pw_below_drewN | apply below_drew1) | exact HB.out))); rintro e w20 ⟨rfl, hb⟩; refine ⟨_, rfl, ?_⟩; have n0_ := Aside0.mk (below_step (by repeat (first | (with_reducible first | exact HB.out | apply below_alloc | apply pw_below_drewN | apply below_drew1) | exact HB.out)) hb); clear HB; have HB := n0_; clear n0_; (try clear hb); (try clear hb2); (try clear hk); (try clear hi)) | ((with_reducible refine gate_callee (f := 13) rfl ?_); refine goesL_ (some 52) rfl rfl Tryd.func13 (by kernel_rfl) rfl #[.int .i64 t114, .int .i64 a2] rfl (by (try simp only [List.map_toArray, List.map_cons, List.map_nil]); first | done | rfl | (simp only [List.length_drop, List.length_take]; rfl)) ?_; (with_reducible refine (money_Sub.calls t114 a2 t116 t117 _ ?side1 A14.out).mono ?_); (case side1 => exact Laid_below HLD.out (by repeat (first | (with_reducible first | exact HB.out | apply below_alloc | apply pw_below_drewN | apply below_drew1) | exact HB.out))); rintro e w21 ⟨rfl, hb⟩; refine ⟨_, rfl, ?_⟩; have n0_ := Aside0.mk (below_step (by repeat (first | (with_reducible first | exact HB.out | apply below_alloc | apply pw_below_drewN | apply below_drew1) | exact HB.out)) hb); clear HB; have HB := n0_; clear n0_; (try clear hb); (try clear hb2); (try clear hk); (try clear hi)))
              go_ret
              exact ⟨by first | rfl | (simp [errW_none, errW_some] <;> rfl) | (simp [*, errW_none, errW_some] <;> rfl), by repeat (first | (with_reducible first | exact HB.out | apply below_alloc | apply pw_below_drewN | apply below_drew1) | exact HB.out)⟩
          · rw [if_neg c16] at H
            have c16b0 : (t115 == 0) = false := beq_eq_false_iff_ne.mpr c16
            have c16b1 : (t115 != 0) = true := bne_iff_ne.mpr c16
            obtain rfl := Option.some.inj H
            go_wp2_with (first | ((with_reducible refine gate_callee (f := 12) rfl ?_); refine goesL_ (some 46) rfl rfl Tryd.func12 (by kernel_rfl) rfl #[.int .i64 a0, .int .i64 a2] rfl (by (try simp only [List.map_toArray, List.map_cons, List.map_nil]); first | done | rfl | (simp only [List.length_drop, List.length_take]; rfl)) ?_; (with_reducible refine (money_Add.calls a0 a2 t114 t115 _ ?side1 A13.out).mono ?_); (case side1 => exact Laid_below HLD.out (by repeat (first | (with_reducible first | exact HB.out | apply below_alloc | apply pw_below_drewN | apply below_drew1) | exact HB.out))); rintro e w22 ⟨rfl, hb⟩; refine ⟨_, rfl, ?_⟩; have n0_ := Aside0.mk (below_step (by repeat (first | (with_reducible first | exact HB.out | apply below_alloc | apply pw_below_drewN | apply below_drew1) | exact HB.out)) hb); clear HB; have HB := n0_; clear n0_; (try clear hb); (try clear hb2); (try clear hk); (try clear hi)) | ((with_reducible refine gate_callee (f := 13) rfl ?_); refine goesL_ (some 52) rfl rfl Tryd.func13 (by kernel_rfl) rfl #[.int .i64 t114, .int .i64 a2] rfl (by (try simp only [List.map_toArray, List.map_cons, List.map_nil]); first | done | rfl | (simp only [List.length_drop, List.length_take]; rfl)) ?_; (with_reducible refine (money_Sub.calls t114 a2 t116 t117 _ ?side1 A14.out).mono ?_); (case side1 => exact Laid_below HLD.out (by repeat (first | (with_reducible first | exact HB.out | apply below_alloc | apply pw_below_drewN | apply below_drew1) | exact HB.out))); rintro e w23 ⟨rfl, hb⟩; refine ⟨_, rfl, ?_⟩; have n0_ := Aside0.mk (below_step (by repeat (first | (with_reducible first | exact HB.out | apply below_alloc | apply pw_below_drewN | apply below_drew1) | exact HB.out)) hb); clear HB; have HB := n0_; clear n0_; (try clear hb); (try clear hb2); (try clear hk); (try clear hi)))
            go_ret
            exact ⟨by first | rfl | (simp [errW_none, errW_some] <;> rfl) | (simp [*, errW_none, errW_some] <;> rfl), by repeat (first | (with_reducible first | exact HB.out | apply below_alloc | apply pw_below_drewN | apply below_drew1) | exact HB.out)⟩
        · replace c15 := Bool.eq_false_iff.mpr c15
          subst c15
          have H1 : (some false) = some r := by rw [if_neg (show ¬ (false = true) by decide)] at H; exact H
          clear H
          have H := H1
          clear H1
          obtain rfl := Option.some.inj H
          go_wp2_with (first | ((with_reducible refine gate_callee (f := 12) rfl ?_); refine goesL_ (some 46) rfl rfl Tryd.func12 (by kernel_rfl) rfl #[.int .i64 a0, .int .i64 a2] rfl (by (try simp only [List.map_toArray, List.map_cons, List.map_nil]); first | done | rfl | (simp only [List.length_drop, List.length_take]; rfl)) ?_; (with_reducible refine (money_Add.calls a0 a2 t114 t115 _ ?side1 A13.out).mono ?_); (case side1 => exact Laid_below HLD.out (by repeat (first | (with_reducible first | exact HB.out | apply below_alloc | apply pw_below_drewN | apply below_drew1) | exact HB.out))); rintro e w24 ⟨rfl, hb⟩; refine ⟨_, rfl, ?_⟩; have n0_ := Aside0.mk (below_step (by repeat (first | (with_reducible first | exact HB.out | apply below_alloc | apply pw_below_drewN | apply below_drew1) | exact HB.out)) hb); clear HB; have HB := n0_; clear n0_; (try clear hb); (try clear hb2); (try clear hk); (try clear hi)) | ((with_reducible refine gate_callee (f := 13) rfl ?_); refine goesL_ (some 52) rfl rfl Tryd.func13 (by kernel_rfl) rfl #[.int .i64 t114, .int .i64 a2] rfl (by (try simp only [List.map_toArray, List.map_cons, List.map_nil]); first | done | rfl | (simp only [List.length_drop, List.length_take]; rfl)) ?_; (with_reducible refine (money_Sub.calls t114 a2 t116 t117 _ ?side1 A14.out).mono ?_); (case side1 => exact Laid_below HLD.out (by repeat (first | (with_reducible first | exact HB.out | apply below_alloc | apply pw_below_drewN | apply below_drew1) | exact HB.out))); rintro e w25 ⟨rfl, hb⟩; refine ⟨_, rfl, ?_⟩; have n0_ := Aside0.mk (below_step (by repeat (first | (with_reducible first | exact HB.out | apply below_alloc | apply pw_below_drewN | apply below_drew1) | exact HB.out)) hb); clear HB; have HB := n0_; clear n0_; (try clear hb); (try clear hb2); (try clear hk); (try clear hi)))
          go_ret
          exact ⟨by first | rfl | (simp [errW_none, errW_some] <;> rfl) | (simp [*, errW_none, errW_some] <;> rfl), by repeat (first | (with_reducible first | exact HB.out | apply below_alloc | apply pw_below_drewN | apply below_drew1) | exact HB.out)⟩


end Go.Proofs.YtfncbcbhhddnpaaDoor.K
