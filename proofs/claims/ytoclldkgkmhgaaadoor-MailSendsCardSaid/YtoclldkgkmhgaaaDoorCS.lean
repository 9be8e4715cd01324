/- Texts laid into one (merge.py): CS0, SNums, SP22, SParseW. -/
import Derived.Test.YtoclldkgkmhgaaaDoorKx0
import Derived.Test.YtoclldkgkmhgaaaDoorCM
import Derived.Test.YtoclldkgkmhgaaaDoorCG
import Derived.Test.YtoclldkgkmhgaaaDoorRng
import Derived.ScopeJumps
import Derived.WalkMore
import Derived.WalkKit
import Derived.OwnWalkIn
import Derived.TacticsInMore
import Derived.LoopNIn
import Derived.LoopIn
import Derived.Lib.Hide
import Derived.Lib.IndexBytes
import Derived.Deep.DeepCutAuto
import Derived.Shelf.Abstract
import Derived.Maps.AppendAt
namespace Go.Proofs.YtoclldkgkmhgaaaDoor.K
open Go.RowKit Go.Proofs.YtoclldkgkmhgaaaDoorW.PrintWords Go.Proofs.YtoclldkgkmhgaaaDoorW.PrintLast Go.Proofs.YtoclldkgkmhgaaaDoorW.PrintMore
attribute [local go_sem] max2_int min2_int max_two min_two max_three min_three max_four min_four   -- for this text's walks alone
set_option linter.unusedVariables false
set_option linter.unusedSimpArgs false

attribute [local go_sem high] eqA25
/-! ### mail_Right: function 20 -/
def mail_Right.j0 : Nat → Bool → Int → Int → Int → Int → Option (Bool)
  | 0, _, _, _, _, _ => none
  | k + 1, x3, x157000, x157001, x157002, x157003 => if x157003 = 0 then (if x3 = true then (if (x157002 == 0 && (x157003 == 0)) = true then (if x157001 > 0 then ((money_Right.f x157001).bind fun t157 => (some t157)) else (some false)) else (some false)) else (some false)) else (if x3 = true then ((money_Right.f x157001).bind fun t158 => (if t158 = true then ((money_Right.f x157003).bind fun t159 => (some t159)) else (some false))) else (some false))
def mail_Right.f (k : Nat) (a0_0 : Int) (a0_1 : Int) (a0_2 : Int) (a0_3 : Int) : Option (Bool) := if a0_0 ≥ 1 then (mail_Right.j0 k (decide (a0_0 ≤ 1000000)) a0_0 a0_1 a0_2 a0_3) else (mail_Right.j0 k false a0_0 a0_1 a0_2 a0_3)
set_option maxHeartbeats 8000000 in
set_option maxRecDepth 100000 in
theorem mail_Right.calls (k : Nat) (a0_0 : Int) (a0_1 : Int) (a0_2 : Int) (a0_3 : Int) (r : Bool) (w : World) (hL : Laid w) (h : mail_Right.f k a0_0 a0_1 a0_2 a0_3 = some r) :
    Calls Tryd.prog 20 #[.agg #[.int .u32 a0_0, .int .i64 a0_1, .int .u16 a0_2, .int .i64 a0_3]] w fun e w' => e = .returned (.bool r) ∧ Below w.heap.size w w' := by
  have hu27 := Tryd.underlying27
  have hu25 := Tryd.underlying25
  have HLD := Aside0.mk hL
  clear hL
  have HB := Aside0.mk (Below.refl w.heap.size w)
  have H : (if a0_0 ≥ 1 then (mail_Right.j0 k (decide (a0_0 ≤ 1000000)) a0_0 a0_1 a0_2 a0_3) else (mail_Right.j0 k false a0_0 a0_1 a0_2 a0_3)) = some r := h
  clear h
  have HC2 := Aside0.mk H
  clear H
  go_enter Tryd.func20, Tryd.ntmps20
  go_upto_region 1 with (first | ((with_reducible refine gate_dst (N := 1) rfl ?_); refine box_event ?hg (N := 1) ?hd (cs := #[.int .u32 a0_0, .int .i64 a0_1, .int .u16 a0_2, .int .i64 a0_3]) (t := 27) ?hr ?_; (case hd => rfl); (case hg => rfl); (case hr => first | (go_simp; done) | (go_simp; rfl)); intro gb156 hg w3 hbox hb; have n0_ := Aside0.mk (below_step (by repeat (first | (with_reducible first | exact HB.out | apply below_alloc | apply pw_below_drewN | apply below_drew1) | exact HB.out)) hb); have n1_ := Aside0.mk (hbox); have n2_ := Aside0.mk ((by rw [hg]; exact (below_size (by repeat (first | (with_reducible first | exact HB.out | apply below_alloc | apply pw_below_drewN | apply below_drew1) | exact HB.out))) : w.heap.size ≤ gb156)); have n3_ := Aside0.mk ((by rw [hg]; exact (below_size (by repeat (first | (with_reducible first | exact HB.out | apply below_alloc | apply pw_below_drewN | apply below_drew1) | exact HB.out))) : w.heap.size ≤ gb156)); clear HB; have HB := n0_; have BK156 := n1_; have GW156 := n2_; have GE156 := n3_; clear n0_ n1_ n2_ n3_; clear hb hbox hg))
  (try simp only [Act.put, List.setIfInBounds_toArray, List.set_cons_zero, List.set_cons_succ])
  go_cut [3] (fun v3 wc => ∃ (kq : Nat) (x3_1 : Bool), v3 = .bool x3_1 ∧ Aside0 (mail_Right.j0 kq x3_1 a0_0 a0_1 a0_2 a0_3 = some r) ∧ Aside0 (kq ≤ k) ∧ Aside0 (wc.heap[gb156]? = some (.cells #[.int .u32 a0_0, .int .i64 a0_1, .int .u16 a0_2, .int .i64 a0_3] 27 (0, 0))) ∧ Aside0 (Below w.heap.size w wc))
  case first =>
    have H := HC2.out
    clear HC2
    by_cases c4 : a0_0 ≥ 1
    · rw [if_pos c4] at H
      have c4b0 : decide (1 ≤ a0_0) = true := decide_eq_true c4
      clear c4
      (first | rw [c4b0] | (simp only [i64_w, i32_w]; rw [c4b0]) | skip)
      have H' := Aside0.mk H
      clear H
      have hcz5_0 : w3.cell? ⟨gb156, 0, none⟩ = some (.int .u32 a0_0) := (blk_cell BK156.out 0).trans rfl
      have hcz5_1 : w3.cell? ⟨gb156, 1, none⟩ = some (.int .i64 a0_1) := (blk_cell BK156.out 1).trans rfl
      have hcz5_2 : w3.cell? ⟨gb156, 2, none⟩ = some (.int .u16 a0_2) := (blk_cell BK156.out 2).trans rfl
      have hcz5_3 : w3.cell? ⟨gb156, 3, none⟩ = some (.int .i64 a0_3) := (blk_cell BK156.out 3).trans rfl
      have hfz5_0 := blk_frozen BK156.out 0
      have hfz5_1 := blk_frozen BK156.out 1
      have hfz5_2 := blk_frozen BK156.out 2
      have hfz5_3 := blk_frozen BK156.out 3
      go_wp2
      go_meet
      case rel => exact ⟨_, (decide (a0_0 ≤ 1000000)), (by first | rfl | (simp; done) | (simp [*]; done)), H', ⟨by first | omega | exact Nat.le_refl _⟩, ⟨by (with_reducible repeat (first | refine blk_drewN ?_ _ | refine blk_drew ?_ | refine blk_alloc ?_ _)); exact BK156.out⟩, ⟨by repeat (first | (with_reducible first | exact HB.out | apply below_alloc | apply pw_below_drewN | apply below_drew1 | refine below_set ?_ GE156.out) | exact HB.out)⟩⟩
    · rw [if_neg c4] at H
      have c4b0 : decide (1 ≤ a0_0) = false := decide_eq_false c4
      clear c4
      (first | rw [c4b0] | (simp only [i64_w, i32_w]; rw [c4b0]) | skip)
      have H' := Aside0.mk H
      clear H
      have hcz6_0 : w3.cell? ⟨gb156, 0, none⟩ = some (.int .u32 a0_0) := (blk_cell BK156.out 0).trans rfl
      have hcz6_1 : w3.cell? ⟨gb156, 1, none⟩ = some (.int .i64 a0_1) := (blk_cell BK156.out 1).trans rfl
      have hcz6_2 : w3.cell? ⟨gb156, 2, none⟩ = some (.int .u16 a0_2) := (blk_cell BK156.out 2).trans rfl
      have hcz6_3 : w3.cell? ⟨gb156, 3, none⟩ = some (.int .i64 a0_3) := (blk_cell BK156.out 3).trans rfl
      have hfz6_0 := blk_frozen BK156.out 0
      have hfz6_1 := blk_frozen BK156.out 1
      have hfz6_2 := blk_frozen BK156.out 2
      have hfz6_3 := blk_frozen BK156.out 3
      go_wp2
      go_meet
      case rel => exact ⟨_, (false), (by first | rfl | (simp; done) | (simp [*]; done)), H', ⟨by first | omega | exact Nat.le_refl _⟩, ⟨by (with_reducible repeat (first | refine blk_drewN ?_ _ | refine blk_drew ?_ | refine blk_alloc ?_ _)); exact BK156.out⟩, ⟨by repeat (first | (with_reducible first | exact HB.out | apply below_alloc | apply pw_below_drewN | apply below_drew1 | refine below_set ?_ GE156.out) | exact HB.out)⟩⟩
  case rest =>
    clear HC2
    try clear c2
    try clear p2
    try clear c4
    try clear c4b0
    try clear hcz5_0
    try clear hcz5_1
    try clear hcz5_2
    try clear hcz5_3
    try clear hcz6_0
    try clear hcz6_1
    try clear hcz6_2
    try clear hcz6_3
    try clear hfz5_0
    try clear hfz5_1
    try clear hfz5_2
    try clear hfz5_3
    try clear hfz6_0
    try clear hfz6_1
    try clear hfz6_2
    try clear hfz6_3
    obtain ⟨kq, x3_1, rfl, HA, HJ1, BK156, HB⟩ := hcut
    cases kq with
    | zero => exact absurd HA.out (by simp [mail_Right.j0])
    | succ kj1 =>
      have H := HA.out
      clear HA
      simp only [mail_Right.j0] at H
      by_cases c7 : a0_3 = 0
      · rw [if_pos c7] at H
        have c7b0 : (a0_3 == 0) = true := beq_iff_eq.mpr c7
        have c7b1 : (a0_3 != 0) = false := bne_eq_false_iff_eq.mpr c7
        clear c7
        by_cases c8 : x3_1 = true
        · subst c8
          have H1 : (if (a0_2 == 0 && (a0_3 == 0)) = true then (if a0_1 > 0 then ((money_Right.f a0_1).bind fun t157 => (some t157)) else (some false)) else (some false)) = some r := by rw [if_pos rfl] at H; exact H
          clear H
          have H := H1
          clear H1
          by_cases c9 : (a0_2 == 0 && (a0_3 == 0)) = true
          · rw [if_pos c9] at H
            have c9b0 : (a0_2 == 0 && (a0_3 == 0)) = true := c9
            (try (have c9b1 : decide (a0_2 = 0 && (a0_3 == 0)) = true := by simpa using c9))
            (try (have c9b2 : (a0_2 == 0 && (a0_3 == 0)) = true := by simpa using c9))
            (try (have c9b3 : (a0_2 == 0) = true := by (have h9 := c9; simp only [Bool.and_eq_true] at h9; exact h9.1)))
            (try (have c9b4 : a0_2 = 0 := by (have h9 := c9; simp only [Bool.and_eq_true, beq_iff_eq] at h9; exact h9.1)))
            clear c9
            by_cases c10 : a0_1 > 0
            · rw [if_pos c10] at H
              have c10b0 : decide (0 < a0_1) = true := decide_eq_true c10
              clear c10
              replace H := Option.bind_eq_some_iff.mp H
              obtain ⟨t157, A110, H⟩ := H
              replace H : (some t157) = some r := H
              have A11 := Aside0.mk A110
              clear A110
              obtain rfl := Option.some.inj H
              have hcz12_0 : wc.cell? ⟨gb156, 0, none⟩ = some (.int .u32 a0_0) := (blk_cell BK156.out 0).trans rfl
              have hcz12_1 : wc.cell? ⟨gb156, 1, none⟩ = some (.int .i64 a0_1) := (blk_cell BK156.out 1).trans rfl
              have hcz12_2 : wc.cell? ⟨gb156, 2, none⟩ = some (.int .u16 a0_2) := (blk_cell BK156.out 2).trans rfl
              have hcz12_3 : wc.cell? ⟨gb156, 3, none⟩ = some (.int .i64 a0_3) := (blk_cell BK156.out 3).trans rfl
              have hfz12_0 := blk_frozen BK156.out 0
              have hfz12_1 := blk_frozen BK156.out 1
              have hfz12_2 := blk_frozen BK156.out 2
              have hfz12_3 := blk_frozen BK156.out 3
              go_wp2_with (first | (go_at_call 47; (with_reducible refine (money_Right.calls a0_1 t157 _ ?side1 A11.out).mono ?_); (case side1 => exact Laid_below HLD.out (by repeat (first | (with_reducible first | exact HB.out | apply below_alloc | apply pw_below_drewN | apply below_drew1 | refine below_set ?_ GE156.out) | exact HB.out))); rintro e w13 ⟨rfl, hb⟩; have n0_ := Aside0.mk (blk_below (g := gb156) (o := .cells #[.int .u32 a0_0, .int .i64 a0_1, .int .u16 a0_2, .int .i64 a0_3] 27 (0, 0)) (by (with_reducible repeat (first | refine blk_drewN ?_ _ | refine blk_drew ?_ | refine blk_alloc ?_ _)); exact BK156.out) hb); have n1_ := Aside0.mk (below_step (by repeat (first | (with_reducible first | exact HB.out | apply below_alloc | apply pw_below_drewN | apply below_drew1 | refine below_set ?_ GE156.out) | exact HB.out)) hb); clear BK156; clear HB; have BK156 := n0_; have HB := n1_; clear n0_ n1_; (try clear hb); (try clear hb2); (try clear hk); (try clear hi)))
              go_ret
              exact ⟨by first | rfl | (simp [errW_none, errW_some] <;> rfl) | (simp [*, errW_none, errW_some] <;> rfl), by repeat (first | (with_reducible first | exact HB.out | apply below_alloc | apply pw_below_drewN | apply below_drew1 | refine below_set ?_ GE156.out) | exact HB.out)⟩
            · rw [if_neg c10] at H
              have c10b0 : decide (0 < a0_1) = false := decide_eq_false c10
              clear c10
              obtain rfl := Option.some.inj H
              have hcz14_0 : wc.cell? ⟨gb156, 0, none⟩ = some (.int .u32 a0_0) := (blk_cell BK156.out 0).trans rfl
              have hcz14_1 : wc.cell? ⟨gb156, 1, none⟩ = some (.int .i64 a0_1) := (blk_cell BK156.out 1).trans rfl
              have hcz14_2 : wc.cell? ⟨gb156, 2, none⟩ = some (.int .u16 a0_2) := (blk_cell BK156.out 2).trans rfl
              have hcz14_3 : wc.cell? ⟨gb156, 3, none⟩ = some (.int .i64 a0_3) := (blk_cell BK156.out 3).trans rfl
              have hfz14_0 := blk_frozen BK156.out 0
              have hfz14_1 := blk_frozen BK156.out 1
              have hfz14_2 := blk_frozen BK156.out 2
              have hfz14_3 := blk_frozen BK156.out 3
              go_wp2
              go_ret
              exact ⟨by first | rfl | (simp [errW_none, errW_some] <;> rfl) | (simp [*, errW_none, errW_some] <;> rfl), by repeat (first | (with_reducible first | exact HB.out | apply below_alloc | apply pw_below_drewN | apply below_drew1 | refine below_set ?_ GE156.out) | exact HB.out)⟩
          · rw [if_neg c9] at H
            have c9b0 : (a0_2 == 0 && (a0_3 == 0)) = false := by simpa using c9
            (try (have c9b1 : decide (a0_2 = 0 && (a0_3 == 0)) = false := by simpa using c9))
            (try (have c9b2 : (a0_2 == 0 && (a0_3 == 0)) = false := by simpa using c9))
            have c9n : (a0_2 == 0) = false := by (cases hc9 : (a0_2 == 0) with | false => rfl | true => exact absurd (by rw [hc9, c7b0]; rfl) c9)
            have c9m : ¬ a0_2 = 0 := by simpa using c9n
            clear c9 c9b0
            (try clear c9b1)
            (try clear c9b2)
            (try clear c9b3)
            obtain rfl := Option.some.inj H
            have hcz15_0 : wc.cell? ⟨gb156, 0, none⟩ = some (.int .u32 a0_0) := (blk_cell BK156.out 0).trans rfl
            have hcz15_1 : wc.cell? ⟨gb156, 1, none⟩ = some (.int .i64 a0_1) := (blk_cell BK156.out 1).trans rfl
            have hcz15_2 : wc.cell? ⟨gb156, 2, none⟩ = some (.int .u16 a0_2) := (blk_cell BK156.out 2).trans rfl
            have hcz15_3 : wc.cell? ⟨gb156, 3, none⟩ = some (.int .i64 a0_3) := (blk_cell BK156.out 3).trans rfl
            have hfz15_0 := blk_frozen BK156.out 0
            have hfz15_1 := blk_frozen BK156.out 1
            have hfz15_2 := blk_frozen BK156.out 2
            have hfz15_3 := blk_frozen BK156.out 3
            go_wp2
            go_ret
            exact ⟨by first | rfl | (simp [errW_none, errW_some] <;> rfl) | (simp [*, errW_none, errW_some] <;> rfl), by repeat (first | (with_reducible first | exact HB.out | apply below_alloc | apply pw_below_drewN | apply below_drew1 | refine below_set ?_ GE156.out) | exact HB.out)⟩
        · replace c8 := Bool.eq_false_iff.mpr c8
          subst c8
          have H1 : (some false) = some r := by rw [if_neg (show ¬ (false = true) by decide)] at H; exact H
          clear H
          have H := H1
          clear H1
          obtain rfl := Option.some.inj H
          have hcz16_0 : wc.cell? ⟨gb156, 0, none⟩ = some (.int .u32 a0_0) := (blk_cell BK156.out 0).trans rfl
          have hcz16_1 : wc.cell? ⟨gb156, 1, none⟩ = some (.int .i64 a0_1) := (blk_cell BK156.out 1).trans rfl
          have hcz16_2 : wc.cell? ⟨gb156, 2, none⟩ = some (.int .u16 a0_2) := (blk_cell BK156.out 2).trans rfl
          have hcz16_3 : wc.cell? ⟨gb156, 3, none⟩ = some (.int .i64 a0_3) := (blk_cell BK156.out 3).trans rfl
          have hfz16_0 := blk_frozen BK156.out 0
          have hfz16_1 := blk_frozen BK156.out 1
          have hfz16_2 := blk_frozen BK156.out 2
          have hfz16_3 := blk_frozen BK156.out 3
          go_wp2
          go_ret
          exact ⟨by first | rfl | (simp [errW_none, errW_some] <;> rfl) | (simp [*, errW_none, errW_some] <;> rfl), by repeat (first | (with_reducible first | exact HB.out | apply below_alloc | apply pw_below_drewN | apply below_drew1 | refine below_set ?_ GE156.out) | exact HB.out)⟩
      · rw [if_neg c7] at H
        have c7b0 : (a0_3 == 0) = false := beq_eq_false_iff_ne.mpr c7
        have c7b1 : (a0_3 != 0) = true := bne_iff_ne.mpr c7
        by_cases c17 : x3_1 = true
        · subst c17
          have H1 : ((money_Right.f a0_1).bind fun t158 => (if t158 = true then ((money_Right.f a0_3).bind fun t159 => (some t159)) else (some false))) = some r := by rw [if_pos rfl] at H; exact H
          clear H
          have H := H1
          clear H1
          replace H := Option.bind_eq_some_iff.mp H
          obtain ⟨t158, A180, H⟩ := H
          replace H : (if t158 = true then ((money_Right.f a0_3).bind fun t159 => (some t159)) else (some false)) = some r := H
          have A18 := Aside0.mk A180
          clear A180
          by_cases c19 : t158 = true
          · subst c19
            have H1 : ((money_Right.f a0_3).bind fun t159 => (some t159)) = some r := by rw [if_pos rfl] at H; exact H
            clear H
            have H := H1
            clear H1
            replace H := Option.bind_eq_some_iff.mp H
            obtain ⟨t159, A200, H⟩ := H
            replace H : (some t159) = some r := H
            have A20 := Aside0.mk A200
            clear A200
            obtain rfl := Option.some.inj H
            have hcz21_0 : wc.cell? ⟨gb156, 0, none⟩ = some (.int .u32 a0_0) := (blk_cell BK156.out 0).trans rfl
            have hcz21_1 : wc.cell? ⟨gb156, 1, none⟩ = some (.int .i64 a0_1) := (blk_cell BK156.out 1).trans rfl
            have hcz21_2 : wc.cell? ⟨gb156, 2, none⟩ = some (.int .u16 a0_2) := (blk_cell BK156.out 2).trans rfl
            have hcz21_3 : wc.cell? ⟨gb156, 3, none⟩ = some (.int .i64 a0_3) := (blk_cell BK156.out 3).trans rfl
            have hfz21_0 := blk_frozen BK156.out 0
            have hfz21_1 := blk_frozen BK156.out 1
            have hfz21_2 := blk_frozen BK156.out 2
            have hfz21_3 := blk_frozen BK156.out 3
            go_wp2_with (first | (go_at_call 47; (with_reducible refine (money_Right.calls a0_1 true _ ?side1 A18.out).mono ?_); (case side1 => exact Laid_below HLD.out (by repeat (first | (with_reducible first | exact HB.out | apply below_alloc | apply pw_below_drewN | apply below_drew1 | refine below_set ?_ GE156.out) | exact HB.out))); rintro e w22 ⟨rfl, hb⟩; have n0_ := Aside0.mk (blk_below (g := gb156) (o := .cells #[.int .u32 a0_0, .int .i64 a0_1, .int .u16 a0_2, .int .i64 a0_3] 27 (0, 0)) (by (with_reducible repeat (first | refine blk_drewN ?_ _ | refine blk_drew ?_ | refine blk_alloc ?_ _)); exact BK156.out) hb); have n1_ := Aside0.mk (below_step (by repeat (first | (with_reducible first | exact HB.out | apply below_alloc | apply pw_below_drewN | apply below_drew1 | refine below_set ?_ GE156.out) | exact HB.out)) hb); clear BK156; clear HB; have BK156 := n0_; have HB := n1_; clear n0_ n1_; (try clear hb); (try clear hb2); (try clear hk); (try clear hi); have hcz23_0 : w22.cell? ⟨gb156, 0, none⟩ = some (.int .u32 a0_0) := (blk_cell BK156.out 0).trans rfl; have hcz23_1 : w22.cell? ⟨gb156, 1, none⟩ = some (.int .i64 a0_1) := (blk_cell BK156.out 1).trans rfl; have hcz23_2 : w22.cell? ⟨gb156, 2, none⟩ = some (.int .u16 a0_2) := (blk_cell BK156.out 2).trans rfl; have hcz23_3 : w22.cell? ⟨gb156, 3, none⟩ = some (.int .i64 a0_3) := (blk_cell BK156.out 3).trans rfl; have hfz23_0 := blk_frozen BK156.out 0; have hfz23_1 := blk_frozen BK156.out 1; have hfz23_2 := blk_frozen BK156.out 2; have hfz23_3 := blk_frozen BK156.out 3) | (go_at_call 47; (with_reducible refine (money_Right.calls a0_3 t159 _ ?side1 A20.out).mono ?_); (case side1 => exact Laid_below HLD.out (by repeat (first | (with_reducible first | exact HB.out | apply below_alloc | apply pw_below_drewN | apply below_drew1 | refine below_set ?_ GE156.out) | exact HB.out))); rintro e w24 ⟨rfl, hb⟩; have n0_ := Aside0.mk (blk_below (g := gb156) (o := .cells #[.int .u32 a0_0, .int .i64 a0_1, .int .u16 a0_2, .int .i64 a0_3] 27 (0, 0)) (by (with_reducible repeat (first | refine blk_drewN ?_ _ | refine blk_drew ?_ | refine blk_alloc ?_ _)); exact BK156.out) hb); have n1_ := Aside0.mk (below_step (by repeat (first | (with_reducible first | exact HB.out | apply below_alloc | apply pw_below_drewN | apply below_drew1 | refine below_set ?_ GE156.out) | exact HB.out)) hb); clear BK156; clear HB; have BK156 := n0_; have HB := n1_; clear n0_ n1_; (try clear hb); (try clear hb2); (try clear hk); (try clear hi)))
            go_ret
            exact ⟨by first | rfl | (simp [errW_none, errW_some] <;> rfl) | (simp [*, errW_none, errW_some] <;> rfl), by repeat (first | (with_reducible first | exact HB.out | apply below_alloc | apply pw_below_drewN | apply below_drew1 | refine below_set ?_ GE156.out) | exact HB.out)⟩
          · replace c19 := Bool.eq_false_iff.mpr c19
            subst c19
            have H1 : (some false) = some r := by rw [if_neg (show ¬ (false = true) by decide)] at H; exact H
            clear H
            have H := H1
            clear H1
            obtain rfl := Option.some.inj H
            have hcz25_0 : wc.cell? ⟨gb156, 0, none⟩ = some (.int .u32 a0_0) := (blk_cell BK156.out 0).trans rfl
            have hcz25_1 : wc.cell? ⟨gb156, 1, none⟩ = some (.int .i64 a0_1) := (blk_cell BK156.out 1).trans rfl
            have hcz25_2 : wc.cell? ⟨gb156, 2, none⟩ = some (.int .u16 a0_2) := (blk_cell BK156.out 2).trans rfl
            have hcz25_3 : wc.cell? ⟨gb156, 3, none⟩ = some (.int .i64 a0_3) := (blk_cell BK156.out 3).trans rfl
            have hfz25_0 := blk_frozen BK156.out 0
            have hfz25_1 := blk_frozen BK156.out 1
            have hfz25_2 := blk_frozen BK156.out 2
            have hfz25_3 := blk_frozen BK156.out 3
            go_wp2_with (first | (go_at_call 47; (with_reducible refine (money_Right.calls a0_1 false _ ?side1 A18.out).mono ?_); (case side1 => exact Laid_below HLD.out (by repeat (first | (with_reducible first | exact HB.out | apply below_alloc | apply pw_below_drewN | apply below_drew1 | refine below_set ?_ GE156.out) | exact HB.out))); rintro e w26 ⟨rfl, hb⟩; have n0_ := Aside0.mk (blk_below (g := gb156) (o := .cells #[.int .u32 a0_0, .int .i64 a0_1, .int .u16 a0_2, .int .i64 a0_3] 27 (0, 0)) (by (with_reducible repeat (first | refine blk_drewN ?_ _ | refine blk_drew ?_ | refine blk_alloc ?_ _)); exact BK156.out) hb); have n1_ := Aside0.mk (below_step (by repeat (first | (with_reducible first | exact HB.out | apply below_alloc | apply pw_below_drewN | apply below_drew1 | refine below_set ?_ GE156.out) | exact HB.out)) hb); clear BK156; clear HB; have BK156 := n0_; have HB := n1_; clear n0_ n1_; (try clear hb); (try clear hb2); (try clear hk); (try clear hi)))
            go_ret
            exact ⟨by first | rfl | (simp [errW_none, errW_some] <;> rfl) | (simp [*, errW_none, errW_some] <;> rfl), by repeat (first | (with_reducible first | exact HB.out | apply below_alloc | apply pw_below_drewN | apply below_drew1 | refine below_set ?_ GE156.out) | exact HB.out)⟩
        · replace c17 := Bool.eq_false_iff.mpr c17
          subst c17
          have H1 : (some false) = some r := by rw [if_neg (show ¬ (false = true) by decide)] at H; exact H
          clear H
          have H := H1
          clear H1
          obtain rfl := Option.some.inj H
          have hcz27_0 : wc.cell? ⟨gb156, 0, none⟩ = some (.int .u32 a0_0) := (blk_cell BK156.out 0).trans rfl
          have hcz27_1 : wc.cell? ⟨gb156, 1, none⟩ = some (.int .i64 a0_1) := (blk_cell BK156.out 1).trans rfl
          have hcz27_2 : wc.cell? ⟨gb156, 2, none⟩ = some (.int .u16 a0_2) := (blk_cell BK156.out 2).trans rfl
          have hcz27_3 : wc.cell? ⟨gb156, 3, none⟩ = some (.int .i64 a0_3) := (blk_cell BK156.out 3).trans rfl
          have hfz27_0 := blk_frozen BK156.out 0
          have hfz27_1 := blk_frozen BK156.out 1
          have hfz27_2 := blk_frozen BK156.out 2
          have hfz27_3 := blk_frozen BK156.out 3
          go_wp2
          go_ret
          exact ⟨by first | rfl | (simp [errW_none, errW_some] <;> rfl) | (simp [*, errW_none, errW_some] <;> rfl), by repeat (first | (with_reducible first | exact HB.out | apply below_alloc | apply pw_below_drewN | apply below_drew1 | refine below_set ?_ GE156.out) | exact HB.out)⟩

end Go.Proofs.YtoclldkgkmhgaaaDoor.K

namespace Go.Proofs.YtoclldkgkmhgaaaDoor.K
open Go.RowKit Go.MapKept Go.Proofs.YtoclldkgkmhgaaaDoorW.PrintWords Go.Proofs.YtoclldkgkmhgaaaDoorW.PrintLast Go.Proofs.YtoclldkgkmhgaaaDoorW.PrintMore
set_option linter.unusedVariables false
set_option linter.unusedSimpArgs false

/-- Is a mail right? -/
def mailOk (m0 m1 m2 m3 : Int) : Bool := (1 ≤ m0 && m0 ≤ 1000000 : Bool) && (if m3 = 0 then (m2 == 0 && (0 < m1 && m1 ≤ 1152921504606846976 : Bool)) else (0 ≤ m1 && m1 ≤ 1152921504606846976 : Bool) && (0 ≤ m3 && m3 ≤ 1152921504606846976 : Bool))
theorem mail_ok (m0 m1 m2 m3 : Int) : mail_Right.f 2 m0 m1 m2 m3 = some (mailOk m0 m1 m2 m3) := by
  unfold mail_Right.f mailOk
  by_cases h0 : m0 ≥ 1
  · rw [if_pos h0]
    unfold mail_Right.j0
    by_cases h3 : m3 = 0
    · by_cases h1 : m1 > 0
      · by_cases h2 : m2 = 0 <;> by_cases h4 : m0 ≤ 1000000 <;> by_cases h5 : m1 ≤ 1152921504606846976 <;> simp [h0, h1, h2, h3, h4, h5, money_Right.f] <;> omega
      · by_cases h2 : m2 = 0 <;> by_cases h4 : m0 ≤ 1000000 <;> simp [h0, h1, h2, h3, h4] <;> omega
    · by_cases h1 : m1 ≥ 0 <;> by_cases h4 : m0 ≤ 1000000 <;> by_cases h5 : m1 ≤ 1152921504606846976 <;> by_cases h6 : m3 ≥ 0 <;> by_cases h7 : m3 ≤ 1152921504606846976 <;> simp [h0, h1, h3, h4, h5, h6, h7, money_Right.f] <;> omega
  · rw [if_neg h0]
    unfold mail_Right.j0
    by_cases h3 : m3 = 0 <;> simp [h0, h3] <;> omega

theorem keepW {V V' : World} {g : Nat} {o : Obj} (hb : Below V.heap.size V V') (h : V.heap[g]? = some o) : V'.heap[g]? = some o := (hb.block _ (Array.getElem?_eq_some_iff.1 h).1).trans h
theorem two_cells {w1 : World} {g t : Nat} {a b : Value} (hz : w1.heap[g]? = some (.cells #[a, b] t (0, 0))) (r0 r1 : Value) :
    ((w1.setCell ⟨g, 0, none⟩ r0).setCell ⟨g, 1, none⟩ r1).cell? ⟨g, 0, none⟩ = some r0 ∧ ((w1.setCell ⟨g, 0, none⟩ r0).setCell ⟨g, 1, none⟩ r1).cell? ⟨g, 1, none⟩ = some r1 := by
  have hz2 := blk_set (by simpa using blk_set hz 0 r0 : (w1.setCell ⟨g, 0, none⟩ r0).heap[g]? = some (.cells #[r0, b] t (0, 0))) 1 r1
  have hz3 : ((w1.setCell ⟨g, 0, none⟩ r0).setCell ⟨g, 1, none⟩ r1).heap[g]? = some (.cells #[r0, r1] t (0, 0)) := by simpa using hz2
  exact ⟨(blk_cell hz3 0).trans rfl, (blk_cell hz3 1).trans rfl⟩
theorem R_set2 {w : World} {g base : Nat} {ok : Nat → Prop} {a b v : Value} {xs : List S25} (h : Kd.R k25 25 w base ok v xs) (hz : w.heap[g]? = some (.cells #[a, b] 38 (0, 0))) (r0 r1 : Value) :
    Kd.R k25 25 ((w.setCell ⟨g, 0, none⟩ r0).setCell ⟨g, 1, none⟩ r1) base ok v xs := by
  have ht : ∀ q, q ∈ 25 :: k25.E → q ≠ 38 := by
    intro q hq
    have : k25.E = [] := rfl
    rw [this] at hq
    simp at hq
    omega
  have hz1 : (w.setCell ⟨g, 0, none⟩ r0).heap[g]? = some (.cells #[r0, b] 38 (0, 0)) := by simpa using blk_set hz 0 r0
  exact Kd.R_set (Kd.R_set h hz ht 0 r0) hz1 ht 1 r1
--@DUP@
set_option maxHeartbeats 2000000 in
theorem send1_calls (ga gm : Nat) (a0 a1 m0 m1 m2 m3 r0 r1 r2 : Int) (W : World) (hL : Laid W) (hS : spendF a0 a1 m1 = (r0, r1, r2))
    (ha : W.heap[ga]? = some (.cells #[.int .i64 a0, .int .i64 a1] 38 (0, 0))) (hm : W.heap[gm]? = some (.cells #[.int .u32 m0, .int .i64 m1, .int .u16 m2, .int .i64 m3] 27 (0, 0))) :
    Calls Tryd.prog 50 #[.pointer (some ⟨ga, 0, none⟩), .pointer (some ⟨gm, 0, none⟩)] W fun e w' => e = .returned (.tuple #[.agg #[.int .i64 r0, .int .i64 r1], .int .i64 r2]) ∧ Below W.heap.size W w' := by
  have HS := Aside0.mk (fun (V : World) (hb : Below W.heap.size W V) => accounts_Spend.calls a0 a1 m1 r0 r1 r2 V (Laid_below hL hb) (by unfold accounts_Spend.f; rw [hS]))
  have hu38 := Tryd.underlying38
  have hu27 := Tryd.underlying27
  have A0 := (blk_cell (alloc_old (.cells #[.int .i64 0, .int .i64 0] 38) ha) 0).trans rfl
  have A1 := (blk_cell (alloc_old (.cells #[.int .i64 0, .int .i64 0] 38) ha) 1).trans rfl
  have M1 := (blk_cell (alloc_old (.cells #[.int .i64 0, .int .i64 0] 38) hm) 1).trans rfl
  have HZ := Aside0.mk (MapKept.heap_alloc W (.cells #[.int .i64 0, .int .i64 0] 38)).1
  clear ha hm hS hL
  go_enter Tryd.func50, Tryd.ntmps50
  go_wp2_with (go_at_call 51; refine (HS.out _ (below_alloc (Below.refl _ _) _)).mono ?_; rintro e w1 ⟨rfl, hb⟩; have hz := (hb.block _ (Array.getElem?_eq_some_iff.1 HZ.out).1).trans HZ.out; have z0 := (blk_cell hz 0).trans rfl; have z1 := (blk_cell hz 1).trans rfl; have f0 := blk_frozen hz 0; have f1 := blk_frozen hz 1; have hz2 := blk_set (by simpa using blk_set hz 0 (.int .i64 r0) : (w1.setCell ⟨W.heap.size, 0, none⟩ (.int .i64 r0)).heap[W.heap.size]? = some (.cells #[.int .i64 r0, .int .i64 0] 38 (0, 0))) 1 (.int .i64 r1); have y0 := (blk_cell (by simpa using hz2 : ((w1.setCell ⟨W.heap.size, 0, none⟩ (.int .i64 r0)).setCell ⟨W.heap.size, 1, none⟩ (.int .i64 r1)).heap[W.heap.size]? = some (.cells #[.int .i64 r0, .int .i64 r1] 38 (0, 0))) 0).trans rfl; have y1 := (blk_cell (by simpa using hz2 : ((w1.setCell ⟨W.heap.size, 0, none⟩ (.int .i64 r0)).setCell ⟨W.heap.size, 1, none⟩ (.int .i64 r1)).heap[W.heap.size]? = some (.cells #[.int .i64 r0, .int .i64 r1] 38 (0, 0))) 1).trans rfl; have HB := Aside0.mk (below_then (below_alloc (Below.refl _ _) _) (by simp) hb); clear hz hz2 hb)
  refine bodyPost_ret (v := .tuple #[.agg #[.int .i64 r0, .int .i64 r1], .int .i64 r2]) (by simp [results, Tryd.results50, go_sem, y0, y1]) rfl ⟨rfl, ?_⟩
  exact below_set (below_set HB.out (Nat.le_refl _)) (Nat.le_refl _)

set_option maxHeartbeats 2000000 in
theorem send2_calls (gl gm : Nat) (A : Option Addr) (c : Nat) (xs : List S25) (m0 m1 m2 m3 : Int) (r1 : List S25) (r2 : Int) (W : World) (hL : Laid W) (hC : Kd.C k25 W A xs.length xs) (hc : xs.length ≤ c) (hlen : xs.length ≤ 1000) (hS : takeS xs m2 m3 = (r1, r2))
    (hl : W.heap[gl]? = some (.cells #[.slice A xs.length c] 39 (0, 0))) (hm : W.heap[gm]? = some (.cells #[.int .u32 m0, .int .i64 m1, .int .u16 m2, .int .i64 m3] 27 (0, 0))) :
    Calls Tryd.prog 52 #[.pointer (some ⟨gl, 0, none⟩), .pointer (some ⟨gm, 0, none⟩)] W fun e w' => ∃ v0, e = .returned (.tuple #[v0, .int .i64 r2]) ∧ Kd.R k25 25 w' W.heap.size (fun _ => True) v0 r1 ∧ Below W.heap.size W w' := by
  have HS := Aside0.mk (take_walk A c xs m2 m3 W hL hC hc hlen r1 r2 hS)
  have hu25 := Tryd.underlying25
  have hu27 := Tryd.underlying27
  have L0 := (blk_cell hl 0).trans rfl
  have M2 := (blk_cell hm 2).trans rfl
  have M3 := (blk_cell hm 3).trans rfl
  clear hl hm hS hL hC
  go_enter Tryd.func52, Tryd.ntmps52
  go_wp2_with (go_at_call 53; refine HS.out.mono ?_; rintro e w1 ⟨v1, rfl, hR, hb⟩; have HR := Aside0.mk hR; have HB := Aside0.mk hb; clear hR hb)
  go_ret2
  exact ⟨v1, rfl, HR.out, HB.out⟩

/-- Sending. -/
def sendS (a0 a1 : Int) (xs : List S25) (m0 m1 m2 m3 : Int) : Int × Int × List S25 × Int :=
  if mailOk m0 m1 m2 m3 = true then
    (if (spendF a0 a1 m1).2.2 = 0 then
      (if rightS xs = true then
        (if m3 > 0 then (if (takeS xs m2 m3).2 = 0 then ((spendF a0 a1 m1).1, (spendF a0 a1 m1).2.1, (takeS xs m2 m3).1, 0) else (0, 0, [], (takeS xs m2 m3).2)) else ((spendF a0 a1 m1).1, (spendF a0 a1 m1).2.1, xs, 0))
      else (0, 0, [], 120))
    else (0, 0, [], (spendF a0 a1 m1).2.2))
  else (0, 0, [], 140)

set_option maxRecDepth 100000 in
set_option maxHeartbeats 8000000 in
theorem send_done (ga gl gm : Nat) (a0 a1 : Int) (A : Option Addr) (c : Nat) (xs : List S25) (m0 m1 m2 m3 : Int) (W : World) (hL : Laid W) (hC : Kd.C k25 W A xs.length xs) (hc : xs.length ≤ c) (hlen : xs.length ≤ 1000)
    (ha : W.heap[ga]? = some (.cells #[.int .i64 a0, .int .i64 a1] 38 (0, 0))) (hl : W.heap[gl]? = some (.cells #[.slice A xs.length c] 39 (0, 0))) (hm : W.heap[gm]? = some (.cells #[.int .u32 m0, .int .i64 m1, .int .u16 m2, .int .i64 m3] 27 (0, 0)))
    (q0 q1 q3 : Int) (q2 : List S25) (hr : sendS a0 a1 xs m0 m1 m2 m3 = (q0, q1, q2, q3)) :
    Calls Tryd.prog 49 #[.slice A xs.length c, .agg #[.int .u32 m0, .int .i64 m1, .int .u16 m2, .int .i64 m3], .func (.func 50) #[] #[.pointer (some ⟨ga, 0, none⟩), .pointer (some ⟨gm, 0, none⟩)], .func (.func 52) #[] #[.pointer (some ⟨gl, 0, none⟩), .pointer (some ⟨gm, 0, none⟩)]] W
      fun e w' => ∃ v0, e = .returned (.tuple #[.agg #[.int .i64 q0, .int .i64 q1], v0, .int .i64 q3]) ∧ Kd.R k25 25 w' W.heap.size (fun _ => True) v0 q2 ∧ Below W.heap.size W w' := by
  obtain ⟨bm, hbm⟩ : ∃ b, mailOk m0 m1 m2 m3 = b := ⟨_, rfl⟩
  obtain ⟨br, hbr⟩ : ∃ b, rightS xs = b := ⟨_, rfl⟩
  obtain ⟨s0, s1, s2, hs⟩ : ∃ s0 s1 s2, spendF a0 a1 m1 = (s0, s1, s2) := ⟨_, _, _, rfl⟩
  obtain ⟨t1, t2, ht⟩ : ∃ t1 t2, takeS xs m2 m3 = (t1, t2) := ⟨_, _, rfl⟩
  have keep : ∀ {V : World}, Below W.heap.size W V → ∀ {g : Nat} {o : Obj}, W.heap[g]? = some o → V.heap[g]? = some o := fun hb g o hg => (hb.block _ (Array.getElem?_eq_some_iff.1 hg).1).trans hg
  have HM := Aside0.mk (fun (V : World) (hb : Below W.heap.size W V) => mail_Right.calls 2 m0 m1 m2 m3 bm V (Laid_below hL hb) (by rw [mail_ok, hbm]))
  have H1 := Aside0.mk (fun (V : World) (hb : Below W.heap.size W V) => send1_calls ga gm a0 a1 m0 m1 m2 m3 s0 s1 s2 V (Laid_below hL hb) hs (keep hb ha) (keep hb hm))
  have H2 := Aside0.mk (fun (V : World) (hb : Below W.heap.size W V) => send2_calls gl gm A c xs m0 m1 m2 m3 t1 t2 V (Laid_below hL hb) (Kd.C_below hC hb) hc hlen ht (keep hb hl) (keep hb hm))
  have HR := Aside0.mk (fun (V : World) (hb : Below W.heap.size W V) => right_walk A c xs V (Laid_below hL hb) (Kd.C_below hC hb) hc hlen br hbr)
  have HC := Aside0.mk (fun (V : World) (hb : Below W.heap.size W V) => clone_walk A xs.length c xs V (Kd.C_below hC hb) (by omega))
  unfold sendS at hr
  rw [hbm, hbr, hs, ht] at hr
  have HQ := Aside0.mk hr
  have hu38 := Tryd.underlying38
  have hu27 := Tryd.underlying27
  have hu25 := Tryd.underlying25
  clear hbm hbr hs ht keep hL hC ha hl hm hr
  have d1 := Aside0.mk (alloc2_fst W (.cells #[.int .u32 m0, .int .i64 m1, .int .u16 m2, .int .i64 m3] 27) (.cells #[.int .i64 0, .int .i64 0] 38))
  have d2 := Aside0.mk (alloc2_new W (.cells #[.int .u32 m0, .int .i64 m1, .int .u16 m2, .int .i64 m3] 27) (.cells #[.int .i64 0, .int .i64 0] 38))
  have hB0 := Aside0.mk (below_two W (.cells #[.int .u32 m0, .int .i64 m1, .int .u16 m2, .int .i64 m3] 27) (.cells #[.int .i64 0, .int .i64 0] 38))
  go_enter Tryd.func49, Tryd.ntmps49
  cases bm with
  | false =>
    go_wp2_with (first
      | (go_at_call 20; refine (HM.out _ hB0.out).mono ?_; rintro e w1 ⟨rfl, hb⟩; have hz := keepW hb d2.out; have hm := keepW hb d1.out; have z0 := (blk_cell hz 0).trans rfl; have z1 := (blk_cell hz 1).trans rfl; have zf0 := blk_frozen hz 0; have zf1 := blk_frozen hz 1; obtain ⟨y0, y1⟩ := two_cells hz (.int .i64 0) (.int .i64 0); have HZ1 := Aside0.mk hz; have HM1 := Aside0.mk hm; have HB1 := Aside0.mk (below_then hB0.out hB0.out.size hb); clear hz hm hb))
    have hq := HQ.out
    simp at hq
    obtain ⟨rfl, rfl, rfl, rfl⟩ := hq
    refine bodyPost_ret (v := .tuple #[.agg #[.int .i64 0, .int .i64 0], .slice none 0 0, .int .i64 140]) (by simp [results, Tryd.results49, go_sem, y0, y1]) rfl ⟨.slice none 0 0, rfl, Kd.R_nil _ _ _ _ _, ?_⟩
    exact below_set (below_set HB1.out (by omega)) (by omega)
  | true =>
    obtain ⟨qe, hqe⟩ : ∃ b, (s2 == 0) = b := ⟨_, rfl⟩
    obtain ⟨qn, hqn⟩ : ∃ b, (s2 != 0) = b := ⟨_, rfl⟩
    have HE := Aside0.mk hqe
    obtain rfl : qn = !qe := by rw [← hqn, ← hqe]; rfl
    cases qe with
    | false =>
      go_wp2_with (first
        | (go_at_call 20; refine (HM.out _ hB0.out).mono ?_; rintro e w1 ⟨rfl, hb⟩; have hz := keepW hb d2.out; have hm := keepW hb d1.out; have z0 := (blk_cell hz 0).trans rfl; have z1 := (blk_cell hz 1).trans rfl; have zf0 := blk_frozen hz 0; have zf1 := blk_frozen hz 1; have HZ1 := Aside0.mk hz; have HM1 := Aside0.mk hm; have HB1 := Aside0.mk (below_then hB0.out hB0.out.size hb); clear hz hm hb)
        | (go_at_call 50; refine (H1.out _ HB1.out).mono ?_; rintro e w2 ⟨rfl, hb⟩; have hz := keepW hb HZ1.out; have hm := keepW hb HM1.out; have HZ2 := Aside0.mk (alloc_old (.cells #[.int .i64 s0, .int .i64 s1] 38) hz); have HM2 := Aside0.mk (alloc_old (.cells #[.int .i64 s0, .int .i64 s1] 38) hm); have HA2 := Aside0.mk (MapKept.heap_alloc w2 (.cells #[.int .i64 s0, .int .i64 s1] 38)).1; have HB2 := Aside0.mk (below_alloc (below_then HB1.out HB1.out.size hb) (.cells #[.int .i64 s0, .int .i64 s1] 38)); clear hz hm hb)
        | (go_at_call 71; refine (HC.out _ HB2.out).mono ?_; rintro e w4 ⟨v4, rfl, hR, hb⟩; have hz := keepW hb HZ2.out; have hm := keepW hb HM2.out; have ha := keepW hb HA2.out; have p0 := (blk_cell hz 0).trans rfl; have p1 := (blk_cell hz 1).trans rfl; have pf0 := blk_frozen hz 0; have pf1 := blk_frozen hz 1; have a0' := (blk_cell ha 0).trans rfl; have a1' := (blk_cell ha 1).trans rfl; have m3' := (blk_cell hm 3).trans rfl; obtain ⟨y0, y1⟩ := two_cells hz (.int .i64 0) (.int .i64 0); have HZ4 := Aside0.mk hz; have HA4 := Aside0.mk ha; have HR4 := Aside0.mk (Kd.R_lower hR HB2.out.size); have HB4 := Aside0.mk (below_then HB2.out HB2.out.size hb); clear hz hm ha hb hR))
      have hq := HQ.out
      have he : ¬ s2 = 0 := by simpa using HE.out
      simp [he] at hq
      obtain ⟨rfl, rfl, rfl, rfl⟩ := hq
      refine bodyPost_ret (v := .tuple #[.agg #[.int .i64 0, .int .i64 0], .slice none 0 0, .int .i64 s2]) (by simp [results, Tryd.results49, go_sem, y0, y1]) rfl ⟨.slice none 0 0, rfl, Kd.R_nil _ _ _ _ _, ?_⟩
      exact below_set (below_set HB4.out (by omega)) (by omega)
    | true =>
      cases br with
      | false =>
        go_wp2_with (first
          | (go_at_call 20; refine (HM.out _ hB0.out).mono ?_; rintro e w1 ⟨rfl, hb⟩; have hz := keepW hb d2.out; have hm := keepW hb d1.out; have z0 := (blk_cell hz 0).trans rfl; have z1 := (blk_cell hz 1).trans rfl; have zf0 := blk_frozen hz 0; have zf1 := blk_frozen hz 1; have HZ1 := Aside0.mk hz; have HM1 := Aside0.mk hm; have HB1 := Aside0.mk (below_then hB0.out hB0.out.size hb); clear hz hm hb)
          | (go_at_call 50; refine (H1.out _ HB1.out).mono ?_; rintro e w2 ⟨rfl, hb⟩; have hz := keepW hb HZ1.out; have hm := keepW hb HM1.out; have HZ2 := Aside0.mk (alloc_old (.cells #[.int .i64 s0, .int .i64 s1] 38) hz); have HM2 := Aside0.mk (alloc_old (.cells #[.int .i64 s0, .int .i64 s1] 38) hm); have HA2 := Aside0.mk (MapKept.heap_alloc w2 (.cells #[.int .i64 s0, .int .i64 s1] 38)).1; have HB2 := Aside0.mk (below_alloc (below_then HB1.out HB1.out.size hb) (.cells #[.int .i64 s0, .int .i64 s1] 38)); clear hz hm hb)
          | (go_at_call 70; refine (HR.out _ HB2.out).mono ?_; rintro e w3 ⟨rfl, hb⟩; have HZ3 := Aside0.mk (keepW hb HZ2.out); have HM3 := Aside0.mk (keepW hb HM2.out); have HA3 := Aside0.mk (keepW hb HA2.out); have HB3 := Aside0.mk (below_then HB2.out HB2.out.size hb); clear hb)
          | (go_at_call 71; refine (HC.out _ HB3.out).mono ?_; rintro e w4 ⟨v4, rfl, hR, hb⟩; have hz := keepW hb HZ3.out; have hm := keepW hb HM3.out; have ha := keepW hb HA3.out; have p0 := (blk_cell hz 0).trans rfl; have p1 := (blk_cell hz 1).trans rfl; have pf0 := blk_frozen hz 0; have pf1 := blk_frozen hz 1; have a0' := (blk_cell ha 0).trans rfl; have a1' := (blk_cell ha 1).trans rfl; have m3' := (blk_cell hm 3).trans rfl; obtain ⟨y0, y1⟩ := two_cells hz (.int .i64 0) (.int .i64 0); have HZ4 := Aside0.mk hz; have HA4 := Aside0.mk ha; have HR4 := Aside0.mk (Kd.R_lower hR HB3.out.size); have HB4 := Aside0.mk (below_then HB3.out HB3.out.size hb); clear hz hm ha hb hR))
        have hq := HQ.out
        have he : s2 = 0 := by simpa using HE.out
        simp [he] at hq
        obtain ⟨rfl, rfl, rfl, rfl⟩ := hq
        refine bodyPost_ret (v := .tuple #[.agg #[.int .i64 0, .int .i64 0], .slice none 0 0, .int .i64 120]) (by simp [results, Tryd.results49, go_sem, y0, y1]) rfl ⟨.slice none 0 0, rfl, Kd.R_nil _ _ _ _ _, ?_⟩
        exact below_set (below_set HB4.out (by omega)) (by omega)
      | true =>
        obtain ⟨qm, hqm⟩ : ∃ b, decide (m3 > 0) = b := ⟨_, rfl⟩
        have HMM := Aside0.mk hqm
        cases qm with
        | false =>
          go_wp2_with (first
            | (go_at_call 20; refine (HM.out _ hB0.out).mono ?_; rintro e w1 ⟨rfl, hb⟩; have hz := keepW hb d2.out; have hm := keepW hb d1.out; have z0 := (blk_cell hz 0).trans rfl; have z1 := (blk_cell hz 1).trans rfl; have zf0 := blk_frozen hz 0; have zf1 := blk_frozen hz 1; have HZ1 := Aside0.mk hz; have HM1 := Aside0.mk hm; have HB1 := Aside0.mk (below_then hB0.out hB0.out.size hb); clear hz hm hb)
            | (go_at_call 50; refine (H1.out _ HB1.out).mono ?_; rintro e w2 ⟨rfl, hb⟩; have hz := keepW hb HZ1.out; have hm := keepW hb HM1.out; have HZ2 := Aside0.mk (alloc_old (.cells #[.int .i64 s0, .int .i64 s1] 38) hz); have HM2 := Aside0.mk (alloc_old (.cells #[.int .i64 s0, .int .i64 s1] 38) hm); have HA2 := Aside0.mk (MapKept.heap_alloc w2 (.cells #[.int .i64 s0, .int .i64 s1] 38)).1; have HB2 := Aside0.mk (below_alloc (below_then HB1.out HB1.out.size hb) (.cells #[.int .i64 s0, .int .i64 s1] 38)); clear hz hm hb)
            | (go_at_call 70; refine (HR.out _ HB2.out).mono ?_; rintro e w3 ⟨rfl, hb⟩; have HZ3 := Aside0.mk (keepW hb HZ2.out); have HM3 := Aside0.mk (keepW hb HM2.out); have HA3 := Aside0.mk (keepW hb HA2.out); have HB3 := Aside0.mk (below_then HB2.out HB2.out.size hb); clear hb)
            | (go_at_call 71; refine (HC.out _ HB3.out).mono ?_; rintro e w4 ⟨v4, rfl, hR, hb⟩; have hz := keepW hb HZ3.out; have hm := keepW hb HM3.out; have ha := keepW hb HA3.out; have p0 := (blk_cell hz 0).trans rfl; have p1 := (blk_cell hz 1).trans rfl; have pf0 := blk_frozen hz 0; have pf1 := blk_frozen hz 1; have a0' := (blk_cell ha 0).trans rfl; have a1' := (blk_cell ha 1).trans rfl; have m3' := (blk_cell hm 3).trans rfl; obtain ⟨y0, y1⟩ := two_cells hz (.int .i64 s0) (.int .i64 s1); have HZ4 := Aside0.mk hz; have HA4 := Aside0.mk ha; have HR4 := Aside0.mk (Kd.R_lower hR HB3.out.size); have HB4 := Aside0.mk (below_then HB3.out HB3.out.size hb); clear hz hm ha hb hR))
          have hq := HQ.out
          have he : s2 = 0 := by simpa using HE.out
          have hm' : ¬ m3 > 0 := by simpa using HMM.out
          simp [he, hm'] at hq
          obtain ⟨rfl, rfl, rfl, rfl⟩ := hq
          refine bodyPost_ret (v := .tuple #[.agg #[.int .i64 s0, .int .i64 s1], v4, .int .i64 0]) (by simp [results, Tryd.results49, go_sem, y0, y1]) rfl ⟨v4, rfl, R_set2 HR4.out HZ4.out _ _, ?_⟩
          exact below_set (below_set HB4.out (by omega)) (by omega)
        | true =>
          obtain ⟨qt, hqt⟩ : ∃ b, (t2 != 0) = b := ⟨_, rfl⟩
          have HT := Aside0.mk hqt
          cases qt with
          | true =>
            go_wp2_with (first
              | (go_at_call 20; refine (HM.out _ hB0.out).mono ?_; rintro e w1 ⟨rfl, hb⟩; have hz := keepW hb d2.out; have hm := keepW hb d1.out; have z0 := (blk_cell hz 0).trans rfl; have z1 := (blk_cell hz 1).trans rfl; have zf0 := blk_frozen hz 0; have zf1 := blk_frozen hz 1; have HZ1 := Aside0.mk hz; have HM1 := Aside0.mk hm; have HB1 := Aside0.mk (below_then hB0.out hB0.out.size hb); clear hz hm hb)
              | (go_at_call 50; refine (H1.out _ HB1.out).mono ?_; rintro e w2 ⟨rfl, hb⟩; have hz := keepW hb HZ1.out; have hm := keepW hb HM1.out; have HZ2 := Aside0.mk (alloc_old (.cells #[.int .i64 s0, .int .i64 s1] 38) hz); have HM2 := Aside0.mk (alloc_old (.cells #[.int .i64 s0, .int .i64 s1] 38) hm); have HA2 := Aside0.mk (MapKept.heap_alloc w2 (.cells #[.int .i64 s0, .int .i64 s1] 38)).1; have HB2 := Aside0.mk (below_alloc (below_then HB1.out HB1.out.size hb) (.cells #[.int .i64 s0, .int .i64 s1] 38)); clear hz hm hb)
              | (go_at_call 70; refine (HR.out _ HB2.out).mono ?_; rintro e w3 ⟨rfl, hb⟩; have HZ3 := Aside0.mk (keepW hb HZ2.out); have HM3 := Aside0.mk (keepW hb HM2.out); have HA3 := Aside0.mk (keepW hb HA2.out); have HB3 := Aside0.mk (below_then HB2.out HB2.out.size hb); clear hb)
              | (go_at_call 71; refine (HC.out _ HB3.out).mono ?_; rintro e w4 ⟨v4, rfl, hR, hb⟩; have hz := keepW hb HZ3.out; have hm := keepW hb HM3.out; have ha := keepW hb HA3.out; have p0 := (blk_cell hz 0).trans rfl; have p1 := (blk_cell hz 1).trans rfl; have pf0 := blk_frozen hz 0; have pf1 := blk_frozen hz 1; have a0' := (blk_cell ha 0).trans rfl; have a1' := (blk_cell ha 1).trans rfl; have m3' := (blk_cell hm 3).trans rfl; have HZ4 := Aside0.mk hz; have HA4 := Aside0.mk ha; have HR4 := Aside0.mk (Kd.R_lower hR HB3.out.size); have HB4 := Aside0.mk (below_then HB3.out HB3.out.size hb); clear hz hm ha hb hR)
              | (go_at_call 52; refine (H2.out _ HB4.out).mono ?_; rintro e w5 ⟨v5, rfl, hR, hb⟩; have hz := keepW hb HZ4.out; have ha := keepW hb HA4.out; have tz0 := (blk_cell hz 0).trans rfl; have tz1 := (blk_cell hz 1).trans rfl; have tf0 := blk_frozen hz 0; have tf1 := blk_frozen hz 1; have a0'' := (blk_cell ha 0).trans rfl; have a1'' := (blk_cell ha 1).trans rfl; obtain ⟨y0, y1⟩ := two_cells hz (.int .i64 0) (.int .i64 0); have HZ5 := Aside0.mk hz; have HR5 := Aside0.mk (Kd.R_lower hR HB4.out.size); have HB5 := Aside0.mk (below_then HB4.out HB4.out.size hb); clear hz ha hb hR))
            have hq := HQ.out
            have he : s2 = 0 := by simpa using HE.out
            have hm' : m3 > 0 := by simpa using HMM.out
            have ht' : ¬ t2 = 0 := by simpa using HT.out
            simp [he, hm', ht'] at hq
            obtain ⟨rfl, rfl, rfl, rfl⟩ := hq
            refine bodyPost_ret (v := .tuple #[.agg #[.int .i64 0, .int .i64 0], .slice none 0 0, .int .i64 t2]) (by simp [results, Tryd.results49, go_sem, y0, y1]) rfl ⟨.slice none 0 0, rfl, Kd.R_nil _ _ _ _ _, ?_⟩
            exact below_set (below_set HB5.out (by omega)) (by omega)
          | false =>
            go_wp2_with (first
              | (go_at_call 20; refine (HM.out _ hB0.out).mono ?_; rintro e w1 ⟨rfl, hb⟩; have hz := keepW hb d2.out; have hm := keepW hb d1.out; have z0 := (blk_cell hz 0).trans rfl; have z1 := (blk_cell hz 1).trans rfl; have zf0 := blk_frozen hz 0; have zf1 := blk_frozen hz 1; have HZ1 := Aside0.mk hz; have HM1 := Aside0.mk hm; have HB1 := Aside0.mk (below_then hB0.out hB0.out.size hb); clear hz hm hb)
              | (go_at_call 50; refine (H1.out _ HB1.out).mono ?_; rintro e w2 ⟨rfl, hb⟩; have hz := keepW hb HZ1.out; have hm := keepW hb HM1.out; have HZ2 := Aside0.mk (alloc_old (.cells #[.int .i64 s0, .int .i64 s1] 38) hz); have HM2 := Aside0.mk (alloc_old (.cells #[.int .i64 s0, .int .i64 s1] 38) hm); have HA2 := Aside0.mk (MapKept.heap_alloc w2 (.cells #[.int .i64 s0, .int .i64 s1] 38)).1; have HB2 := Aside0.mk (below_alloc (below_then HB1.out HB1.out.size hb) (.cells #[.int .i64 s0, .int .i64 s1] 38)); clear hz hm hb)
              | (go_at_call 70; refine (HR.out _ HB2.out).mono ?_; rintro e w3 ⟨rfl, hb⟩; have HZ3 := Aside0.mk (keepW hb HZ2.out); have HM3 := Aside0.mk (keepW hb HM2.out); have HA3 := Aside0.mk (keepW hb HA2.out); have HB3 := Aside0.mk (below_then HB2.out HB2.out.size hb); clear hb)
              | (go_at_call 71; refine (HC.out _ HB3.out).mono ?_; rintro e w4 ⟨v4, rfl, hR, hb⟩; have hz := keepW hb HZ3.out; have hm := keepW hb HM3.out; have ha := keepW hb HA3.out; have p0 := (blk_cell hz 0).trans rfl; have p1 := (blk_cell hz 1).trans rfl; have pf0 := blk_frozen hz 0; have pf1 := blk_frozen hz 1; have a0' := (blk_cell ha 0).trans rfl; have a1' := (blk_cell ha 1).trans rfl; have m3' := (blk_cell hm 3).trans rfl; have HZ4 := Aside0.mk hz; have HA4 := Aside0.mk ha; have HR4 := Aside0.mk (Kd.R_lower hR HB3.out.size); have HB4 := Aside0.mk (below_then HB3.out HB3.out.size hb); clear hz hm ha hb hR)
              | (go_at_call 52; refine (H2.out _ HB4.out).mono ?_; rintro e w5 ⟨v5, rfl, hR, hb⟩; have hz := keepW hb HZ4.out; have ha := keepW hb HA4.out; have tz0 := (blk_cell hz 0).trans rfl; have tz1 := (blk_cell hz 1).trans rfl; have tf0 := blk_frozen hz 0; have tf1 := blk_frozen hz 1; have a0'' := (blk_cell ha 0).trans rfl; have a1'' := (blk_cell ha 1).trans rfl; obtain ⟨y0, y1⟩ := two_cells hz (.int .i64 s0) (.int .i64 s1); have HZ5 := Aside0.mk hz; have HR5 := Aside0.mk (Kd.R_lower hR HB4.out.size); have HB5 := Aside0.mk (below_then HB4.out HB4.out.size hb); clear hz ha hb hR))
            have hq := HQ.out
            have he : s2 = 0 := by simpa using HE.out
            have hm' : m3 > 0 := by simpa using HMM.out
            have ht' : t2 = 0 := by simpa using HT.out
            simp [he, hm', ht'] at hq
            obtain ⟨rfl, rfl, rfl, rfl⟩ := hq
            refine bodyPost_ret (v := .tuple #[.agg #[.int .i64 s0, .int .i64 s1], v5, .int .i64 0]) (by simp [results, Tryd.results49, go_sem, y0, y1]) rfl ⟨v5, rfl, R_set2 HR5.out HZ5.out _ _, ?_⟩
            exact below_set (below_set HB5.out (by omega)) (by omega)

set_option maxHeartbeats 4000000 in
theorem send_walk (a0 a1 : Int) (A : Option Addr) (c : Nat) (xs : List S25) (m0 m1 m2 m3 : Int) (w : World) (hL : Laid w) (hC : Kd.C k25 w A xs.length xs) (hc : xs.length ≤ c) (hlen : xs.length ≤ 1000) (q0 q1 q3 : Int) (q2 : List S25) (hr : sendS a0 a1 xs m0 m1 m2 m3 = (q0, q1, q2, q3)) :
    Calls Tryd.prog 23 #[.agg #[.int .i64 a0, .int .i64 a1], .slice A xs.length c, .agg #[.int .u32 m0, .int .i64 m1, .int .u16 m2, .int .i64 m3]] w fun e w' => ∃ v0, e = .returned (.tuple #[.agg #[.int .i64 q0, .int .i64 q1], v0, .int .i64 q3]) ∧ Kd.R k25 25 w' w.heap.size (fun _ => True) v0 q2 ∧ Below w.heap.size w w' := by
  have hmf : ∀ (fn : Fn) (first cap : Array Value) (w : World), (Instr.makeFunc fn first cap).run Tryd.prog w = .ok (.func fn first cap) w := fun _ _ _ _ => rfl
  have hu38 := Tryd.underlying38
  have hu27 := Tryd.underlying27
  have ea := alloc_old (.cells #[.int .i64 0, .int .i64 0] 38) (alloc_old (.cells #[.int .u32 m0, .int .i64 m1, .int .u16 m2, .int .i64 m3] 27) (alloc2_fst w (.cells #[.int .i64 a0, .int .i64 a1] 38) (.cells #[.slice A xs.length c] 39)))
  have el := alloc_old (.cells #[.int .i64 0, .int .i64 0] 38) (alloc_old (.cells #[.int .u32 m0, .int .i64 m1, .int .u16 m2, .int .i64 m3] 27) (alloc2_new w (.cells #[.int .i64 a0, .int .i64 a1] 38) (.cells #[.slice A xs.length c] 39)))
  have em := alloc_old (.cells #[.int .i64 0, .int .i64 0] 38) (alloc3_new w (.cells #[.int .i64 a0, .int .i64 a1] 38) (.cells #[.slice A xs.length c] 39) (.cells #[.int .u32 m0, .int .i64 m1, .int .u16 m2, .int .i64 m3] 27))
  have hb := below_alloc (below_three w (.cells #[.int .i64 a0, .int .i64 a1] 38) (.cells #[.slice A xs.length c] 39) (.cells #[.int .u32 m0, .int .i64 m1, .int .u16 m2, .int .i64 m3] 27)) (.cells #[.int .i64 0, .int .i64 0] 38)
  have er := (MapKept.heap_alloc (((w.alloc (.cells #[.int .i64 a0, .int .i64 a1] 38)).alloc (.cells #[.slice A xs.length c] 39)).alloc (.cells #[.int .u32 m0, .int .i64 m1, .int .u16 m2, .int .i64 m3] 27)) (.cells #[.int .i64 0, .int .i64 0] 38)).1
  rw [show (((w.alloc (.cells #[.int .i64 a0, .int .i64 a1] 38)).alloc (.cells #[.slice A xs.length c] 39)).alloc (.cells #[.int .u32 m0, .int .i64 m1, .int .u16 m2, .int .i64 m3] 27)).heap.size = w.heap.size + 1 + 1 + 1 by simp] at er
  have HD := Aside0.mk (send_done w.heap.size (w.heap.size + 1) (w.heap.size + 1 + 1) a0 a1 A c xs m0 m1 m2 m3 _ (Laid_below hL hb) (Kd.C_below hC hb) hc hlen ea el em q0 q1 q3 q2 hr)
  have HB := Aside0.mk hb
  have HE := Aside0.mk er
  clear ea el em hb er hr hC hL
  go_enter Tryd.func23, Tryd.ntmps23
  go_wp2_with (go_at_call 49; refine HD.out.mono ?_; rintro e w1 ⟨v1, rfl, hR, hb1⟩; have hz := keepW hb1 HE.out; have z0 := (blk_cell hz 0).trans rfl; have z1 := (blk_cell hz 1).trans rfl; have f0 := blk_frozen hz 0; have f1 := blk_frozen hz 1; obtain ⟨y0, y1⟩ := two_cells hz (.int .i64 q0) (.int .i64 q1); have HZ := Aside0.mk hz; have HB1 := Aside0.mk (below_then HB.out HB.out.size hb1); have HR1 := Aside0.mk (Kd.R_lower hR HB.out.size); clear hz hR hb1)
  refine bodyPost_ret (v := .tuple #[.agg #[.int .i64 q0, .int .i64 q1], v1, .int .i64 q3]) (by simp [results, Tryd.results23, go_sem, y0, y1]) rfl ⟨v1, rfl, R_set2 HR1.out HZ.out _ _, ?_⟩
  exact below_set (below_set HB1.out (by omega)) (by omega)

def mail_Send.f (a0_0 : Int) (a0_1 : Int) (l1 : List (S25)) (a2_0 : Int) (a2_1 : Int) (a2_2 : Int) (a2_3 : Int) : Option (Int × Int × (List (S25)) × Int) := if 1000 < l1.length then none else some (sendS a0_0 a0_1 l1 a2_0 a2_1 a2_2 a2_3)
theorem mail_Send.calls (a0_0 : Int) (a0_1 : Int) (A1 : Option Addr) (c1 : Nat) (l1 : List (S25)) (a2_0 : Int) (a2_1 : Int) (a2_2 : Int) (a2_3 : Int) (r1 : Int) (r2 : Int) (r3 : List (S25)) (r4 : Int) (w : World) (hL : Laid w) (hr1 : Kd.C k25 w A1 l1.length l1) (hc1 : l1.length ≤ c1) (h : mail_Send.f a0_0 a0_1 l1 a2_0 a2_1 a2_2 a2_3 = some (r1, r2, r3, r4)) :
    Calls Tryd.prog 23 #[.agg #[.int .i64 a0_0, .int .i64 a0_1], .slice A1 l1.length c1, .agg #[.int .u32 a2_0, .int .i64 a2_1, .int .u16 a2_2, .int .i64 a2_3]] w fun e w' => ∃ v2_ : Value, e = .returned (.tuple #[.agg #[.int .i64 r1, .int .i64 r2], v2_, .int .i64 r4]) ∧ Kd.R k25 25 w' w.heap.size (fun _ => True) v2_ r3 ∧ Below w.heap.size w w' := by
  unfold mail_Send.f at h
  by_cases hs : 1000 < l1.length
  · rw [if_pos hs] at h; cases h
  · rw [if_neg hs] at h
    exact send_walk a0_0 a0_1 A1 c1 l1 a2_0 a2_1 a2_2 a2_3 w hL hr1 hc1 (by omega) r1 r2 r4 r3 (Option.some.inj h)
--@DUPEND@
end Go.Proofs.YtoclldkgkmhgaaaDoor.K

namespace Go.Proofs.YtoclldkgkmhgaaaDoor.K
open Go.RowKit Go.MapKept Go.Proofs.YtoclldkgkmhgaaaDoorW.PrintWords Go.Proofs.YtoclldkgkmhgaaaDoorW.PrintLast Go.Proofs.YtoclldkgkmhgaaaDoorW.PrintMore
set_option linter.unusedVariables false
set_option linter.unusedSimpArgs false

set_option maxHeartbeats 2000000 in
theorem claim1_calls (ga gm : Nat) (a0 a1 m0 m1 m2 m3 r0 r1 r2 : Int) (W : World) (hL : Laid W) (hS : earnF a0 a1 m1 = (r0, r1, r2))
    (ha : W.heap[ga]? = some (.cells #[.int .i64 a0, .int .i64 a1] 38 (0, 0))) (hm : W.heap[gm]? = some (.cells #[.int .u32 m0, .int .i64 m1, .int .u16 m2, .int .i64 m3] 27 (0, 0))) :
    Calls Tryd.prog 58 #[.pointer (some ⟨ga, 0, none⟩), .pointer (some ⟨gm, 0, none⟩)] W fun e w' => e = .returned (.tuple #[.agg #[.int .i64 r0, .int .i64 r1], .int .i64 r2]) ∧ Below W.heap.size W w' := by
  have HS := Aside0.mk (fun (V : World) (hb : Below W.heap.size W V) => accounts_Earn.calls a0 a1 m1 r0 r1 r2 V (Laid_below hL hb) (by unfold accounts_Earn.f; rw [hS]))
  have hu38 := Tryd.underlying38
  have hu27 := Tryd.underlying27
  have A0 := (blk_cell (alloc_old (.cells #[.int .i64 0, .int .i64 0] 38) ha) 0).trans rfl
  have A1 := (blk_cell (alloc_old (.cells #[.int .i64 0, .int .i64 0] 38) ha) 1).trans rfl
  have M1 := (blk_cell (alloc_old (.cells #[.int .i64 0, .int .i64 0] 38) hm) 1).trans rfl
  have HZ := Aside0.mk (MapKept.heap_alloc W (.cells #[.int .i64 0, .int .i64 0] 38)).1
  clear ha hm hS hL
  go_enter Tryd.func58, Tryd.ntmps58
  go_wp2_with (go_at_call 59; refine (HS.out _ (below_alloc (Below.refl _ _) _)).mono ?_; rintro e w1 ⟨rfl, hb⟩; have hz := (hb.block _ (Array.getElem?_eq_some_iff.1 HZ.out).1).trans HZ.out; have z0 := (blk_cell hz 0).trans rfl; have z1 := (blk_cell hz 1).trans rfl; have f0 := blk_frozen hz 0; have f1 := blk_frozen hz 1; have hz2 := blk_set (by simpa using blk_set hz 0 (.int .i64 r0) : (w1.setCell ⟨W.heap.size, 0, none⟩ (.int .i64 r0)).heap[W.heap.size]? = some (.cells #[.int .i64 r0, .int .i64 0] 38 (0, 0))) 1 (.int .i64 r1); have y0 := (blk_cell (by simpa using hz2 : ((w1.setCell ⟨W.heap.size, 0, none⟩ (.int .i64 r0)).setCell ⟨W.heap.size, 1, none⟩ (.int .i64 r1)).heap[W.heap.size]? = some (.cells #[.int .i64 r0, .int .i64 r1] 38 (0, 0))) 0).trans rfl; have y1 := (blk_cell (by simpa using hz2 : ((w1.setCell ⟨W.heap.size, 0, none⟩ (.int .i64 r0)).setCell ⟨W.heap.size, 1, none⟩ (.int .i64 r1)).heap[W.heap.size]? = some (.cells #[.int .i64 r0, .int .i64 r1] 38 (0, 0))) 1).trans rfl; have HB := Aside0.mk (below_then (below_alloc (Below.refl _ _) _) (by simp) hb); clear hz hz2 hb)
  refine bodyPost_ret (v := .tuple #[.agg #[.int .i64 r0, .int .i64 r1], .int .i64 r2]) (by simp [results, Tryd.results58, go_sem, y0, y1]) rfl ⟨rfl, ?_⟩
  exact below_set (below_set HB.out (Nat.le_refl _)) (Nat.le_refl _)

set_option maxHeartbeats 2000000 in
theorem claim2_calls (gl gm : Nat) (A : Option Addr) (c : Nat) (xs : List S25) (m0 m1 m2 m3 : Int) (r1 : List S25) (r2 : Int) (W : World) (hL : Laid W) (hC : Kd.C k25 W A xs.length xs) (hc : xs.length ≤ c) (hlen : xs.length ≤ 1000) (hS : giveS xs m2 m3 = (r1, r2))
    (hl : W.heap[gl]? = some (.cells #[.slice A xs.length c] 39 (0, 0))) (hm : W.heap[gm]? = some (.cells #[.int .u32 m0, .int .i64 m1, .int .u16 m2, .int .i64 m3] 27 (0, 0))) :
    Calls Tryd.prog 60 #[.pointer (some ⟨gl, 0, none⟩), .pointer (some ⟨gm, 0, none⟩)] W fun e w' => ∃ v0, e = .returned (.tuple #[v0, .int .i64 r2]) ∧ Kd.R k25 25 w' W.heap.size (fun _ => True) v0 r1 ∧ Below W.heap.size W w' := by
  have HS := Aside0.mk (give_walk A c xs m2 m3 W hL hC hc hlen r1 r2 hS)
  have hu25 := Tryd.underlying25
  have hu27 := Tryd.underlying27
  have L0 := (blk_cell hl 0).trans rfl
  have M2 := (blk_cell hm 2).trans rfl
  have M3 := (blk_cell hm 3).trans rfl
  clear hl hm hS hL hC
  go_enter Tryd.func60, Tryd.ntmps60
  go_wp2_with (go_at_call 61; refine HS.out.mono ?_; rintro e w1 ⟨v1, rfl, hR, hb⟩; have HR := Aside0.mk hR; have HB := Aside0.mk hb; clear hR hb)
  go_ret2
  exact ⟨v1, rfl, HR.out, HB.out⟩

/-- Claiming. -/
def claimS (a0 a1 : Int) (xs : List S25) (m0 m1 m2 m3 : Int) : Int × Int × List S25 × Int :=
  if mailOk m0 m1 m2 m3 = true then
    (if (earnF a0 a1 m1).2.2 = 0 then
      (if rightS xs = true then
        (if m3 > 0 then (if (giveS xs m2 m3).2 = 0 then ((earnF a0 a1 m1).1, (earnF a0 a1 m1).2.1, (giveS xs m2 m3).1, 0) else (0, 0, [], (giveS xs m2 m3).2)) else ((earnF a0 a1 m1).1, (earnF a0 a1 m1).2.1, xs, 0))
      else (0, 0, [], 120))
    else (0, 0, [], (earnF a0 a1 m1).2.2))
  else (0, 0, [], 140)

set_option maxRecDepth 100000 in
set_option maxHeartbeats 8000000 in
theorem claim_done (ga gl gm : Nat) (a0 a1 : Int) (A : Option Addr) (c : Nat) (xs : List S25) (m0 m1 m2 m3 : Int) (W : World) (hL : Laid W) (hC : Kd.C k25 W A xs.length xs) (hc : xs.length ≤ c) (hlen : xs.length ≤ 1000)
    (ha : W.heap[ga]? = some (.cells #[.int .i64 a0, .int .i64 a1] 38 (0, 0))) (hl : W.heap[gl]? = some (.cells #[.slice A xs.length c] 39 (0, 0))) (hm : W.heap[gm]? = some (.cells #[.int .u32 m0, .int .i64 m1, .int .u16 m2, .int .i64 m3] 27 (0, 0)))
    (q0 q1 q3 : Int) (q2 : List S25) (hr : claimS a0 a1 xs m0 m1 m2 m3 = (q0, q1, q2, q3)) :
    Calls Tryd.prog 49 #[.slice A xs.length c, .agg #[.int .u32 m0, .int .i64 m1, .int .u16 m2, .int .i64 m3], .func (.func 58) #[] #[.pointer (some ⟨ga, 0, none⟩), .pointer (some ⟨gm, 0, none⟩)], .func (.func 60) #[] #[.pointer (some ⟨gl, 0, none⟩), .pointer (some ⟨gm, 0, none⟩)]] W
      fun e w' => ∃ v0, e = .returned (.tuple #[.agg #[.int .i64 q0, .int .i64 q1], v0, .int .i64 q3]) ∧ Kd.R k25 25 w' W.heap.size (fun _ => True) v0 q2 ∧ Below W.heap.size W w' := by
  obtain ⟨bm, hbm⟩ : ∃ b, mailOk m0 m1 m2 m3 = b := ⟨_, rfl⟩
  obtain ⟨br, hbr⟩ : ∃ b, rightS xs = b := ⟨_, rfl⟩
  obtain ⟨s0, s1, s2, hs⟩ : ∃ s0 s1 s2, earnF a0 a1 m1 = (s0, s1, s2) := ⟨_, _, _, rfl⟩
  obtain ⟨t1, t2, ht⟩ : ∃ t1 t2, giveS xs m2 m3 = (t1, t2) := ⟨_, _, rfl⟩
  have keep : ∀ {V : World}, Below W.heap.size W V → ∀ {g : Nat} {o : Obj}, W.heap[g]? = some o → V.heap[g]? = some o := fun hb g o hg => (hb.block _ (Array.getElem?_eq_some_iff.1 hg).1).trans hg
  have HM := Aside0.mk (fun (V : World) (hb : Below W.heap.size W V) => mail_Right.calls 2 m0 m1 m2 m3 bm V (Laid_below hL hb) (by rw [mail_ok, hbm]))
  have H1 := Aside0.mk (fun (V : World) (hb : Below W.heap.size W V) => claim1_calls ga gm a0 a1 m0 m1 m2 m3 s0 s1 s2 V (Laid_below hL hb) hs (keep hb ha) (keep hb hm))
  have H2 := Aside0.mk (fun (V : World) (hb : Below W.heap.size W V) => claim2_calls gl gm A c xs m0 m1 m2 m3 t1 t2 V (Laid_below hL hb) (Kd.C_below hC hb) hc hlen ht (keep hb hl) (keep hb hm))
  have HR := Aside0.mk (fun (V : World) (hb : Below W.heap.size W V) => right_walk A c xs V (Laid_below hL hb) (Kd.C_below hC hb) hc hlen br hbr)
  have HC := Aside0.mk (fun (V : World) (hb : Below W.heap.size W V) => clone_walk A xs.length c xs V (Kd.C_below hC hb) (by omega))
  unfold claimS at hr
  rw [hbm, hbr, hs, ht] at hr
  have HQ := Aside0.mk hr
  have hu38 := Tryd.underlying38
  have hu27 := Tryd.underlying27
  have hu25 := Tryd.underlying25
  clear hbm hbr hs ht keep hL hC ha hl hm hr
  have d1 := Aside0.mk (alloc2_fst W (.cells #[.int .u32 m0, .int .i64 m1, .int .u16 m2, .int .i64 m3] 27) (.cells #[.int .i64 0, .int .i64 0] 38))
  have d2 := Aside0.mk (alloc2_new W (.cells #[.int .u32 m0, .int .i64 m1, .int .u16 m2, .int .i64 m3] 27) (.cells #[.int .i64 0, .int .i64 0] 38))
  have hB0 := Aside0.mk (below_two W (.cells #[.int .u32 m0, .int .i64 m1, .int .u16 m2, .int .i64 m3] 27) (.cells #[.int .i64 0, .int .i64 0] 38))
  go_enter Tryd.func49, Tryd.ntmps49
  cases bm with
  | false =>
    go_wp2_with (first
      | (go_at_call 20; refine (HM.out _ hB0.out).mono ?_; rintro e w1 ⟨rfl, hb⟩; have hz := keepW hb d2.out; have hm := keepW hb d1.out; have z0 := (blk_cell hz 0).trans rfl; have z1 := (blk_cell hz 1).trans rfl; have zf0 := blk_frozen hz 0; have zf1 := blk_frozen hz 1; obtain ⟨y0, y1⟩ := two_cells hz (.int .i64 0) (.int .i64 0); have HZ1 := Aside0.mk hz; have HM1 := Aside0.mk hm; have HB1 := Aside0.mk (below_then hB0.out hB0.out.size hb); clear hz hm hb))
    have hq := HQ.out
    simp at hq
    obtain ⟨rfl, rfl, rfl, rfl⟩ := hq
    refine bodyPost_ret (v := .tuple #[.agg #[.int .i64 0, .int .i64 0], .slice none 0 0, .int .i64 140]) (by simp [results, Tryd.results49, go_sem, y0, y1]) rfl ⟨.slice none 0 0, rfl, Kd.R_nil _ _ _ _ _, ?_⟩
    exact below_set (below_set HB1.out (by omega)) (by omega)
  | true =>
    obtain ⟨qe, hqe⟩ : ∃ b, (s2 == 0) = b := ⟨_, rfl⟩
    obtain ⟨qn, hqn⟩ : ∃ b, (s2 != 0) = b := ⟨_, rfl⟩
    have HE := Aside0.mk hqe
    obtain rfl : qn = !qe := by rw [← hqn, ← hqe]; rfl
    cases qe with
    | false =>
      go_wp2_with (first
        | (go_at_call 20; refine (HM.out _ hB0.out).mono ?_; rintro e w1 ⟨rfl, hb⟩; have hz := keepW hb d2.out; have hm := keepW hb d1.out; have z0 := (blk_cell hz 0).trans rfl; have z1 := (blk_cell hz 1).trans rfl; have zf0 := blk_frozen hz 0; have zf1 := blk_frozen hz 1; have HZ1 := Aside0.mk hz; have HM1 := Aside0.mk hm; have HB1 := Aside0.mk (below_then hB0.out hB0.out.size hb); clear hz hm hb)
        | (go_at_call 58; refine (H1.out _ HB1.out).mono ?_; rintro e w2 ⟨rfl, hb⟩; have hz := keepW hb HZ1.out; have hm := keepW hb HM1.out; have HZ2 := Aside0.mk (alloc_old (.cells #[.int .i64 s0, .int .i64 s1] 38) hz); have HM2 := Aside0.mk (alloc_old (.cells #[.int .i64 s0, .int .i64 s1] 38) hm); have HA2 := Aside0.mk (MapKept.heap_alloc w2 (.cells #[.int .i64 s0, .int .i64 s1] 38)).1; have HB2 := Aside0.mk (below_alloc (below_then HB1.out HB1.out.size hb) (.cells #[.int .i64 s0, .int .i64 s1] 38)); clear hz hm hb)
        | (go_at_call 71; refine (HC.out _ HB2.out).mono ?_; rintro e w4 ⟨v4, rfl, hR, hb⟩; have hz := keepW hb HZ2.out; have hm := keepW hb HM2.out; have ha := keepW hb HA2.out; have p0 := (blk_cell hz 0).trans rfl; have p1 := (blk_cell hz 1).trans rfl; have pf0 := blk_frozen hz 0; have pf1 := blk_frozen hz 1; have a0' := (blk_cell ha 0).trans rfl; have a1' := (blk_cell ha 1).trans rfl; have m3' := (blk_cell hm 3).trans rfl; obtain ⟨y0, y1⟩ := two_cells hz (.int .i64 0) (.int .i64 0); have HZ4 := Aside0.mk hz; have HA4 := Aside0.mk ha; have HR4 := Aside0.mk (Kd.R_lower hR HB2.out.size); have HB4 := Aside0.mk (below_then HB2.out HB2.out.size hb); clear hz hm ha hb hR))
      have hq := HQ.out
      have he : ¬ s2 = 0 := by simpa using HE.out
      simp [he] at hq
      obtain ⟨rfl, rfl, rfl, rfl⟩ := hq
      refine bodyPost_ret (v := .tuple #[.agg #[.int .i64 0, .int .i64 0], .slice none 0 0, .int .i64 s2]) (by simp [results, Tryd.results49, go_sem, y0, y1]) rfl ⟨.slice none 0 0, rfl, Kd.R_nil _ _ _ _ _, ?_⟩
      exact below_set (below_set HB4.out (by omega)) (by omega)
    | true =>
      cases br with
      | false =>
        go_wp2_with (first
          | (go_at_call 20; refine (HM.out _ hB0.out).mono ?_; rintro e w1 ⟨rfl, hb⟩; have hz := keepW hb d2.out; have hm := keepW hb d1.out; have z0 := (blk_cell hz 0).trans rfl; have z1 := (blk_cell hz 1).trans rfl; have zf0 := blk_frozen hz 0; have zf1 := blk_frozen hz 1; have HZ1 := Aside0.mk hz; have HM1 := Aside0.mk hm; have HB1 := Aside0.mk (below_then hB0.out hB0.out.size hb); clear hz hm hb)
          | (go_at_call 58; refine (H1.out _ HB1.out).mono ?_; rintro e w2 ⟨rfl, hb⟩; have hz := keepW hb HZ1.out; have hm := keepW hb HM1.out; have HZ2 := Aside0.mk (alloc_old (.cells #[.int .i64 s0, .int .i64 s1] 38) hz); have HM2 := Aside0.mk (alloc_old (.cells #[.int .i64 s0, .int .i64 s1] 38) hm); have HA2 := Aside0.mk (MapKept.heap_alloc w2 (.cells #[.int .i64 s0, .int .i64 s1] 38)).1; have HB2 := Aside0.mk (below_alloc (below_then HB1.out HB1.out.size hb) (.cells #[.int .i64 s0, .int .i64 s1] 38)); clear hz hm hb)
          | (go_at_call 70; refine (HR.out _ HB2.out).mono ?_; rintro e w3 ⟨rfl, hb⟩; have HZ3 := Aside0.mk (keepW hb HZ2.out); have HM3 := Aside0.mk (keepW hb HM2.out); have HA3 := Aside0.mk (keepW hb HA2.out); have HB3 := Aside0.mk (below_then HB2.out HB2.out.size hb); clear hb)
          | (go_at_call 71; refine (HC.out _ HB3.out).mono ?_; rintro e w4 ⟨v4, rfl, hR, hb⟩; have hz := keepW hb HZ3.out; have hm := keepW hb HM3.out; have ha := keepW hb HA3.out; have p0 := (blk_cell hz 0).trans rfl; have p1 := (blk_cell hz 1).trans rfl; have pf0 := blk_frozen hz 0; have pf1 := blk_frozen hz 1; have a0' := (blk_cell ha 0).trans rfl; have a1' := (blk_cell ha 1).trans rfl; have m3' := (blk_cell hm 3).trans rfl; obtain ⟨y0, y1⟩ := two_cells hz (.int .i64 0) (.int .i64 0); have HZ4 := Aside0.mk hz; have HA4 := Aside0.mk ha; have HR4 := Aside0.mk (Kd.R_lower hR HB3.out.size); have HB4 := Aside0.mk (below_then HB3.out HB3.out.size hb); clear hz hm ha hb hR))
        have hq := HQ.out
        have he : s2 = 0 := by simpa using HE.out
        simp [he] at hq
        obtain ⟨rfl, rfl, rfl, rfl⟩ := hq
        refine bodyPost_ret (v := .tuple #[.agg #[.int .i64 0, .int .i64 0], .slice none 0 0, .int .i64 120]) (by simp [results, Tryd.results49, go_sem, y0, y1]) rfl ⟨.slice none 0 0, rfl, Kd.R_nil _ _ _ _ _, ?_⟩
        exact below_set (below_set HB4.out (by omega)) (by omega)
      | true =>
        obtain ⟨qm, hqm⟩ : ∃ b, decide (m3 > 0) = b := ⟨_, rfl⟩
        have HMM := Aside0.mk hqm
        cases qm with
        | false =>
          go_wp2_with (first
            | (go_at_call 20; refine (HM.out _ hB0.out).mono ?_; rintro e w1 ⟨rfl, hb⟩; have hz := keepW hb d2.out; have hm := keepW hb d1.out; have z0 := (blk_cell hz 0).trans rfl; have z1 := (blk_cell hz 1).trans rfl; have zf0 := blk_frozen hz 0; have zf1 := blk_frozen hz 1; have HZ1 := Aside0.mk hz; have HM1 := Aside0.mk hm; have HB1 := Aside0.mk (below_then hB0.out hB0.out.size hb); clear hz hm hb)
            | (go_at_call 58; refine (H1.out _ HB1.out).mono ?_; rintro e w2 ⟨rfl, hb⟩; have hz := keepW hb HZ1.out; have hm := keepW hb HM1.out; have HZ2 := Aside0.mk (alloc_old (.cells #[.int .i64 s0, .int .i64 s1] 38) hz); have HM2 := Aside0.mk (alloc_old (.cells #[.int .i64 s0, .int .i64 s1] 38) hm); have HA2 := Aside0.mk (MapKept.heap_alloc w2 (.cells #[.int .i64 s0, .int .i64 s1] 38)).1; have HB2 := Aside0.mk (below_alloc (below_then HB1.out HB1.out.size hb) (.cells #[.int .i64 s0, .int .i64 s1] 38)); clear hz hm hb)
            | (go_at_call 70; refine (HR.out _ HB2.out).mono ?_; rintro e w3 ⟨rfl, hb⟩; have HZ3 := Aside0.mk (keepW hb HZ2.out); have HM3 := Aside0.mk (keepW hb HM2.out); have HA3 := Aside0.mk (keepW hb HA2.out); have HB3 := Aside0.mk (below_then HB2.out HB2.out.size hb); clear hb)
            | (go_at_call 71; refine (HC.out _ HB3.out).mono ?_; rintro e w4 ⟨v4, rfl, hR, hb⟩; have hz := keepW hb HZ3.out; have hm := keepW hb HM3.out; have ha := keepW hb HA3.out; have p0 := (blk_cell hz 0).trans rfl; have p1 := (blk_cell hz 1).trans rfl; have pf0 := blk_frozen hz 0; have pf1 := blk_frozen hz 1; have a0' := (blk_cell ha 0).trans rfl; have a1' := (blk_cell ha 1).trans rfl; have m3' := (blk_cell hm 3).trans rfl; obtain ⟨y0, y1⟩ := two_cells hz (.int .i64 s0) (.int .i64 s1); have HZ4 := Aside0.mk hz; have HA4 := Aside0.mk ha; have HR4 := Aside0.mk (Kd.R_lower hR HB3.out.size); have HB4 := Aside0.mk (below_then HB3.out HB3.out.size hb); clear hz hm ha hb hR))
          have hq := HQ.out
          have he : s2 = 0 := by simpa using HE.out
          have hm' : ¬ m3 > 0 := by simpa using HMM.out
          simp [he, hm'] at hq
          obtain ⟨rfl, rfl, rfl, rfl⟩ := hq
          refine bodyPost_ret (v := .tuple #[.agg #[.int .i64 s0, .int .i64 s1], v4, .int .i64 0]) (by simp [results, Tryd.results49, go_sem, y0, y1]) rfl ⟨v4, rfl, R_set2 HR4.out HZ4.out _ _, ?_⟩
          exact below_set (below_set HB4.out (by omega)) (by omega)
        | true =>
          obtain ⟨qt, hqt⟩ : ∃ b, (t2 != 0) = b := ⟨_, rfl⟩
          have HT := Aside0.mk hqt
          cases qt with
          | true =>
            go_wp2_with (first
              | (go_at_call 20; refine (HM.out _ hB0.out).mono ?_; rintro e w1 ⟨rfl, hb⟩; have hz := keepW hb d2.out; have hm := keepW hb d1.out; have z0 := (blk_cell hz 0).trans rfl; have z1 := (blk_cell hz 1).trans rfl; have zf0 := blk_frozen hz 0; have zf1 := blk_frozen hz 1; have HZ1 := Aside0.mk hz; have HM1 := Aside0.mk hm; have HB1 := Aside0.mk (below_then hB0.out hB0.out.size hb); clear hz hm hb)
              | (go_at_call 58; refine (H1.out _ HB1.out).mono ?_; rintro e w2 ⟨rfl, hb⟩; have hz := keepW hb HZ1.out; have hm := keepW hb HM1.out; have HZ2 := Aside0.mk (alloc_old (.cells #[.int .i64 s0, .int .i64 s1] 38) hz); have HM2 := Aside0.mk (alloc_old (.cells #[.int .i64 s0, .int .i64 s1] 38) hm); have HA2 := Aside0.mk (MapKept.heap_alloc w2 (.cells #[.int .i64 s0, .int .i64 s1] 38)).1; have HB2 := Aside0.mk (below_alloc (below_then HB1.out HB1.out.size hb) (.cells #[.int .i64 s0, .int .i64 s1] 38)); clear hz hm hb)
              | (go_at_call 70; refine (HR.out _ HB2.out).mono ?_; rintro e w3 ⟨rfl, hb⟩; have HZ3 := Aside0.mk (keepW hb HZ2.out); have HM3 := Aside0.mk (keepW hb HM2.out); have HA3 := Aside0.mk (keepW hb HA2.out); have HB3 := Aside0.mk (below_then HB2.out HB2.out.size hb); clear hb)
              | (go_at_call 71; refine (HC.out _ HB3.out).mono ?_; rintro e w4 ⟨v4, rfl, hR, hb⟩; have hz := keepW hb HZ3.out; have hm := keepW hb HM3.out; have ha := keepW hb HA3.out; have p0 := (blk_cell hz 0).trans rfl; have p1 := (blk_cell hz 1).trans rfl; have pf0 := blk_frozen hz 0; have pf1 := blk_frozen hz 1; have a0' := (blk_cell ha 0).trans rfl; have a1' := (blk_cell ha 1).trans rfl; have m3' := (blk_cell hm 3).trans rfl; have HZ4 := Aside0.mk hz; have HA4 := Aside0.mk ha; have HR4 := Aside0.mk (Kd.R_lower hR HB3.out.size); have HB4 := Aside0.mk (below_then HB3.out HB3.out.size hb); clear hz hm ha hb hR)
              | (go_at_call 60; refine (H2.out _ HB4.out).mono ?_; rintro e w5 ⟨v5, rfl, hR, hb⟩; have hz := keepW hb HZ4.out; have ha := keepW hb HA4.out; have tz0 := (blk_cell hz 0).trans rfl; have tz1 := (blk_cell hz 1).trans rfl; have tf0 := blk_frozen hz 0; have tf1 := blk_frozen hz 1; have a0'' := (blk_cell ha 0).trans rfl; have a1'' := (blk_cell ha 1).trans rfl; obtain ⟨y0, y1⟩ := two_cells hz (.int .i64 0) (.int .i64 0); have HZ5 := Aside0.mk hz; have HR5 := Aside0.mk (Kd.R_lower hR HB4.out.size); have HB5 := Aside0.mk (below_then HB4.out HB4.out.size hb); clear hz ha hb hR))
            have hq := HQ.out
            have he : s2 = 0 := by simpa using HE.out
            have hm' : m3 > 0 := by simpa using HMM.out
            have ht' : ¬ t2 = 0 := by simpa using HT.out
            simp [he, hm', ht'] at hq
            obtain ⟨rfl, rfl, rfl, rfl⟩ := hq
            refine bodyPost_ret (v := .tuple #[.agg #[.int .i64 0, .int .i64 0], .slice none 0 0, .int .i64 t2]) (by simp [results, Tryd.results49, go_sem, y0, y1]) rfl ⟨.slice none 0 0, rfl, Kd.R_nil _ _ _ _ _, ?_⟩
            exact below_set (below_set HB5.out (by omega)) (by omega)
          | false =>
            go_wp2_with (first
              | (go_at_call 20; refine (HM.out _ hB0.out).mono ?_; rintro e w1 ⟨rfl, hb⟩; have hz := keepW hb d2.out; have hm := keepW hb d1.out; have z0 := (blk_cell hz 0).trans rfl; have z1 := (blk_cell hz 1).trans rfl; have zf0 := blk_frozen hz 0; have zf1 := blk_frozen hz 1; have HZ1 := Aside0.mk hz; have HM1 := Aside0.mk hm; have HB1 := Aside0.mk (below_then hB0.out hB0.out.size hb); clear hz hm hb)
              | (go_at_call 58; refine (H1.out _ HB1.out).mono ?_; rintro e w2 ⟨rfl, hb⟩; have hz := keepW hb HZ1.out; have hm := keepW hb HM1.out; have HZ2 := Aside0.mk (alloc_old (.cells #[.int .i64 s0, .int .i64 s1] 38) hz); have HM2 := Aside0.mk (alloc_old (.cells #[.int .i64 s0, .int .i64 s1] 38) hm); have HA2 := Aside0.mk (MapKept.heap_alloc w2 (.cells #[.int .i64 s0, .int .i64 s1] 38)).1; have HB2 := Aside0.mk (below_alloc (below_then HB1.out HB1.out.size hb) (.cells #[.int .i64 s0, .int .i64 s1] 38)); clear hz hm hb)
              | (go_at_call 70; refine (HR.out _ HB2.out).mono ?_; rintro e w3 ⟨rfl, hb⟩; have HZ3 := Aside0.mk (keepW hb HZ2.out); have HM3 := Aside0.mk (keepW hb HM2.out); have HA3 := Aside0.mk (keepW hb HA2.out); have HB3 := Aside0.mk (below_then HB2.out HB2.out.size hb); clear hb)
              | (go_at_call 71; refine (HC.out _ HB3.out).mono ?_; rintro e w4 ⟨v4, rfl, hR, hb⟩; have hz := keepW hb HZ3.out; have hm := keepW hb HM3.out; have ha := keepW hb HA3.out; have p0 := (blk_cell hz 0).trans rfl; have p1 := (blk_cell hz 1).trans rfl; have pf0 := blk_frozen hz 0; have pf1 := blk_frozen hz 1; have a0' := (blk_cell ha 0).trans rfl; have a1' := (blk_cell ha 1).trans rfl; have m3' := (blk_cell hm 3).trans rfl; have HZ4 := Aside0.mk hz; have HA4 := Aside0.mk ha; have HR4 := Aside0.mk (Kd.R_lower hR HB3.out.size); have HB4 := Aside0.mk (below_then HB3.out HB3.out.size hb); clear hz hm ha hb hR)
              | (go_at_call 60; refine (H2.out _ HB4.out).mono ?_; rintro e w5 ⟨v5, rfl, hR, hb⟩; have hz := keepW hb HZ4.out; have ha := keepW hb HA4.out; have tz0 := (blk_cell hz 0).trans rfl; have tz1 := (blk_cell hz 1).trans rfl; have tf0 := blk_frozen hz 0; have tf1 := blk_frozen hz 1; have a0'' := (blk_cell ha 0).trans rfl; have a1'' := (blk_cell ha 1).trans rfl; obtain ⟨y0, y1⟩ := two_cells hz (.int .i64 s0) (.int .i64 s1); have HZ5 := Aside0.mk hz; have HR5 := Aside0.mk (Kd.R_lower hR HB4.out.size); have HB5 := Aside0.mk (below_then HB4.out HB4.out.size hb); clear hz ha hb hR))
            have hq := HQ.out
            have he : s2 = 0 := by simpa using HE.out
            have hm' : m3 > 0 := by simpa using HMM.out
            have ht' : t2 = 0 := by simpa using HT.out
            simp [he, hm', ht'] at hq
            obtain ⟨rfl, rfl, rfl, rfl⟩ := hq
            refine bodyPost_ret (v := .tuple #[.agg #[.int .i64 s0, .int .i64 s1], v5, .int .i64 0]) (by simp [results, Tryd.results49, go_sem, y0, y1]) rfl ⟨v5, rfl, R_set2 HR5.out HZ5.out _ _, ?_⟩
            exact below_set (below_set HB5.out (by omega)) (by omega)

set_option maxHeartbeats 4000000 in
theorem claim_walk (a0 a1 : Int) (A : Option Addr) (c : Nat) (xs : List S25) (m0 m1 m2 m3 : Int) (w : World) (hL : Laid w) (hC : Kd.C k25 w A xs.length xs) (hc : xs.length ≤ c) (hlen : xs.length ≤ 1000) (q0 q1 q3 : Int) (q2 : List S25) (hr : claimS a0 a1 xs m0 m1 m2 m3 = (q0, q1, q2, q3)) :
    Calls Tryd.prog 25 #[.agg #[.int .i64 a0, .int .i64 a1], .slice A xs.length c, .agg #[.int .u32 m0, .int .i64 m1, .int .u16 m2, .int .i64 m3]] w fun e w' => ∃ v0, e = .returned (.tuple #[.agg #[.int .i64 q0, .int .i64 q1], v0, .int .i64 q3]) ∧ Kd.R k25 25 w' w.heap.size (fun _ => True) v0 q2 ∧ Below w.heap.size w w' := by
  have hmf : ∀ (fn : Fn) (first cap : Array Value) (w : World), (Instr.makeFunc fn first cap).run Tryd.prog w = .ok (.func fn first cap) w := fun _ _ _ _ => rfl
  have hu38 := Tryd.underlying38
  have hu27 := Tryd.underlying27
  have ea := alloc_old (.cells #[.int .i64 0, .int .i64 0] 38) (alloc_old (.cells #[.int .u32 m0, .int .i64 m1, .int .u16 m2, .int .i64 m3] 27) (alloc2_fst w (.cells #[.int .i64 a0, .int .i64 a1] 38) (.cells #[.slice A xs.length c] 39)))
  have el := alloc_old (.cells #[.int .i64 0, .int .i64 0] 38) (alloc_old (.cells #[.int .u32 m0, .int .i64 m1, .int .u16 m2, .int .i64 m3] 27) (alloc2_new w (.cells #[.int .i64 a0, .int .i64 a1] 38) (.cells #[.slice A xs.length c] 39)))
  have em := alloc_old (.cells #[.int .i64 0, .int .i64 0] 38) (alloc3_new w (.cells #[.int .i64 a0, .int .i64 a1] 38) (.cells #[.slice A xs.length c] 39) (.cells #[.int .u32 m0, .int .i64 m1, .int .u16 m2, .int .i64 m3] 27))
  have hb := below_alloc (below_three w (.cells #[.int .i64 a0, .int .i64 a1] 38) (.cells #[.slice A xs.length c] 39) (.cells #[.int .u32 m0, .int .i64 m1, .int .u16 m2, .int .i64 m3] 27)) (.cells #[.int .i64 0, .int .i64 0] 38)
  have er := (MapKept.heap_alloc (((w.alloc (.cells #[.int .i64 a0, .int .i64 a1] 38)).alloc (.cells #[.slice A xs.length c] 39)).alloc (.cells #[.int .u32 m0, .int .i64 m1, .int .u16 m2, .int .i64 m3] 27)) (.cells #[.int .i64 0, .int .i64 0] 38)).1
  rw [show (((w.alloc (.cells #[.int .i64 a0, .int .i64 a1] 38)).alloc (.cells #[.slice A xs.length c] 39)).alloc (.cells #[.int .u32 m0, .int .i64 m1, .int .u16 m2, .int .i64 m3] 27)).heap.size = w.heap.size + 1 + 1 + 1 by simp] at er
  have HD := Aside0.mk (claim_done w.heap.size (w.heap.size + 1) (w.heap.size + 1 + 1) a0 a1 A c xs m0 m1 m2 m3 _ (Laid_below hL hb) (Kd.C_below hC hb) hc hlen ea el em q0 q1 q3 q2 hr)
  have HB := Aside0.mk hb
  have HE := Aside0.mk er
  clear ea el em hb er hr hC hL
  go_enter Tryd.func25, Tryd.ntmps25
  go_wp2_with (go_at_call 49; refine HD.out.mono ?_; rintro e w1 ⟨v1, rfl, hR, hb1⟩; have hz := keepW hb1 HE.out; have z0 := (blk_cell hz 0).trans rfl; have z1 := (blk_cell hz 1).trans rfl; have f0 := blk_frozen hz 0; have f1 := blk_frozen hz 1; obtain ⟨y0, y1⟩ := two_cells hz (.int .i64 q0) (.int .i64 q1); have HZ := Aside0.mk hz; have HB1 := Aside0.mk (below_then HB.out HB.out.size hb1); have HR1 := Aside0.mk (Kd.R_lower hR HB.out.size); clear hz hR hb1)
  refine bodyPost_ret (v := .tuple #[.agg #[.int .i64 q0, .int .i64 q1], v1, .int .i64 q3]) (by simp [results, Tryd.results25, go_sem, y0, y1]) rfl ⟨v1, rfl, R_set2 HR1.out HZ.out _ _, ?_⟩
  exact below_set (below_set HB1.out (by omega)) (by omega)

def mail_Claim.f (a0_0 : Int) (a0_1 : Int) (l1 : List (S25)) (a2_0 : Int) (a2_1 : Int) (a2_2 : Int) (a2_3 : Int) : Option (Int × Int × (List (S25)) × Int) := if 1000 < l1.length then none else some (claimS a0_0 a0_1 l1 a2_0 a2_1 a2_2 a2_3)
theorem mail_Claim.calls (a0_0 : Int) (a0_1 : Int) (A1 : Option Addr) (c1 : Nat) (l1 : List (S25)) (a2_0 : Int) (a2_1 : Int) (a2_2 : Int) (a2_3 : Int) (r1 : Int) (r2 : Int) (r3 : List (S25)) (r4 : Int) (w : World) (hL : Laid w) (hr1 : Kd.C k25 w A1 l1.length l1) (hc1 : l1.length ≤ c1) (h : mail_Claim.f a0_0 a0_1 l1 a2_0 a2_1 a2_2 a2_3 = some (r1, r2, r3, r4)) :
    Calls Tryd.prog 25 #[.agg #[.int .i64 a0_0, .int .i64 a0_1], .slice A1 l1.length c1, .agg #[.int .u32 a2_0, .int .i64 a2_1, .int .u16 a2_2, .int .i64 a2_3]] w fun e w' => ∃ v2_ : Value, e = .returned (.tuple #[.agg #[.int .i64 r1, .int .i64 r2], v2_, .int .i64 r4]) ∧ Kd.R k25 25 w' w.heap.size (fun _ => True) v2_ r3 ∧ Below w.heap.size w w' := by
  unfold mail_Claim.f at h
  by_cases hs : 1000 < l1.length
  · rw [if_pos hs] at h; cases h
  · rw [if_neg hs] at h
    exact claim_walk a0_0 a0_1 A1 c1 l1 a2_0 a2_1 a2_2 a2_3 w hL hr1 hc1 (by omega) r1 r2 r4 r3 (Option.some.inj h)
end Go.Proofs.YtoclldkgkmhgaaaDoor.K

namespace Go.Proofs.YtoclldkgkmhgaaaDoor.K
open Go.RowKit Go.MapKept Go.Proofs.YtoclldkgkmhgaaaDoorW.PrintWords Go.Proofs.YtoclldkgkmhgaaaDoorW.PrintLast Go.Proofs.YtoclldkgkmhgaaaDoorW.PrintMore
set_option linter.unusedVariables false
set_option linter.unusedSimpArgs false

set_option maxRecDepth 100000 in
set_option maxHeartbeats 4000000 in
theorem mail_Parse.no (s : ByteArray) (w : World) (hs : s.size ≠ 22) :
    Calls Tryd.prog 18 #[.string s] w fun e w' => e = .returned (.tuple #[.agg #[.int .u32 0, .int .i64 0, .int .u16 0, .int .i64 0], .int .i64 140]) ∧ Below w.heap.size w w' := by
  have d : ((s.size : Int) != 22) = true := by simpa using (by omega : ¬ (s.size : Int) = 22)
  have hu27 := Tryd.underlying27
  clear hs
  go_enter Tryd.func18, Tryd.ntmps18
  go_wp2
  have hz := MapKept.heap_alloc w (.cells #[.int .u32 0, .int .i64 0, .int .u16 0, .int .i64 0] 27)
  refine wp_scope_jumps 0 (fun a' w' => w'.heap[w.heap.size]? = some (.cells #[.int .u32 0, .int .i64 0, .int .u16 0, .int .i64 0] 27 (0, 0)) ∧ Below w.heap.size w w' ∧ ∃ (u4 u5 u6 u7 u8 u9 u10 u11 u12 u13 u14 u15 u16 u17 u18 u19 u20 u21 u22 u23 u24 u25 u26 u27 u28 u29 u30 u31 u32 u33 u34 u35 u36 u37 u38 : Value), a' = { tmps := #[.string s, undef, .pointer (some ⟨w.heap.size, 0, none⟩), .int .i64 0, u4, u5, u6, u7, u8, u9, u10, u11, u12, u13, u14, u15, u16, u17, u18, u19, u20, u21, u22, u23, u24, u25, u26, u27, u28, u29, u30, u31, u32, u33, u34, u35, u36, u37, u38], defers := [] }) (fun _ _ => 0) rfl ?_ ?_
  · go_wp2
    try go_step3
    exact ⟨rfl, alloc_old _ (alloc_old _ hz.1), below_alloc (below_alloc (below_alloc (Below.refl _ _) _) _) _, _, _, _, _, _, _, _, _, _, _, _, _, _, _, _, _, _, _, _, _, _, _, _, _, _, _, _, _, _, _, _, _, _, _, _, rfl⟩
  · rintro a' w' ⟨hz', hb1, u4, u5, u6, u7, u8, u9, u10, u11, u12, u13, u14, u15, u16, u17, u18, u19, u20, u21, u22, u23, u24, u25, u26, u27, u28, u29, u30, u31, u32, u33, u34, u35, u36, u37, u38, rfl⟩
    have c0 := (blk_cell hz' 0).trans rfl
    have c1 := (blk_cell hz' 1).trans rfl
    have c2 := (blk_cell hz' 2).trans rfl
    have c3 := (blk_cell hz' 3).trans rfl
    have f0 := blk_frozen hz' 0
    have f1 := blk_frozen hz' 1
    have f2 := blk_frozen hz' 2
    have f3 := blk_frozen hz' 3
    have HB := Aside0.mk hb1
    have e1 := blk_set hz' 0 (.int .u32 0)
    have e2 := blk_set e1 1 (.int .i64 0)
    have e3 := blk_set e2 2 (.int .u16 0)
    have e4 := blk_set e3 3 (.int .i64 0)
    have y0 := (blk_cell e4 0).trans rfl
    have y1 := (blk_cell e4 1).trans rfl
    have y2 := (blk_cell e4 2).trans rfl
    have y3 := (blk_cell e4 3).trans rfl
    clear hz' hb1 e1 e2 e3 e4
    go_wp2
    simp only [Exit.jump]
    refine bodyPost_ret (v := .tuple #[.agg #[.int .u32 0, .int .i64 0, .int .u16 0, .int .i64 0], .int .i64 140]) (by simp [results, Tryd.results18, go_sem, y0, y1, y2, y3]) rfl ⟨rfl, ?_⟩
    exact below_set (below_set (below_set (below_set HB.out (Nat.le_refl _)) (Nat.le_refl _)) (Nat.le_refl _)) (Nat.le_refl _)
end Go.Proofs.YtoclldkgkmhgaaaDoor.K

namespace Go.Proofs.YtoclldkgkmhgaaaDoor.K
open Go.RowKit Go.MapKept Go.Proofs.YtoclldkgkmhgaaaDoor.Rng Go.Proofs.YtoclldkgkmhgaaaDoorW.PrintWords Go.Proofs.YtoclldkgkmhgaaaDoorW.PrintLast Go.Proofs.YtoclldkgkmhgaaaDoorW.PrintMore
set_option linter.unusedVariables false
set_option linter.unusedSimpArgs false
attribute [local go_sem] Oper.semAt_some

/-- The first i bytes of l, as a number of 64 bits. -/
def num64 (l : List UInt8) : Nat → Int
  | 0 => 0
  | i + 1 => Go.bits .or .u64 (IntKind.u64.wrap (num64 l i * 256)) (IntKind.u64.wrap ((l.getD i 0).toNat : Int))

/-- How many bytes lie ahead of number k. -/
def ahead (zs : List Nat) (k : Nat) : Nat := (zs.take k).sum

theorem at_of_lt (s : ByteArray) (j : Nat) (h : j < s.size) : s.data.toList.getD j 0 = s[j] := by
  rw [List.getD_eq_getElem?_getD, List.getElem?_eq_getElem (by simpa using h)]
  rfl

theorem ahead_succ (zs : List Nat) (k : Nat) (h : k < zs.length) : ahead zs (k + 1) = ahead zs k + zs.getD k 0 := by
  unfold ahead
  rw [List.take_succ_eq_append_getElem h, List.sum_append, List.getD_eq_getElem?_getD, List.getElem?_eq_getElem h]
  simp

theorem ahead_le (zs : List Nat) (k : Nat) : ahead zs k ≤ zs.sum := by
  have := List.take_append_drop k zs
  have h2 : (zs.take k).sum + (zs.drop k).sum = zs.sum := by rw [← List.sum_append, this]
  unfold ahead
  omega

set_option maxRecDepth 100000 in
set_option maxHeartbeats 2000000 in
theorem mnumbers1 (F : Fence) (n : Nat) (hF : F.fn 69) (hro : F.round = none) (hn : 1 ≤ n) (B1 B2 b c : Nat) (zs : List Nat) (s : ByteArray) (w : World) (hlen : zs.length ≤ 10) (hsum : zs.sum ≤ s.size) (hs : s.size ≤ 1000)
    (h1 : w.heap[B1]? = some (.cells #[.slice (some ⟨b, 0, none⟩) zs.length c] 92 (0, 0))) (h2 : w.heap[B2]? = some (.cells #[.string s] 9 (0, 0)))
    (hb : ∃ cs, w.heap[b]? = some (.cells cs 3 (0, 0)) ∧ ∀ j, j < zs.length → cs[j]? = some (.int .i64 (zs.getD j 0 : Nat))) :
    SeqL F n Tryd.prog 69 #[.pointer (some ⟨B1, 0, none⟩), .pointer (some ⟨B2, 0, none⟩)] (fun k => #[.int .i64 (k : Nat), .int .u64 (num64 (s.data.toList.drop (ahead zs k)) (zs.getD k 0))]) zs.length (fun _ k => k = B1 ∨ k = B2 ∨ k = b) (fun _ k => k = B2) w := by
  intro l J Jx W hW hJ hJx hY h0
  obtain ⟨cs, hb, hcs⟩ := hb
  have e1 : W.heap[B1]? = some (.cells #[.slice (some ⟨b, 0, none⟩) zs.length c] 92 (0, 0)) := (hW.block _ (Array.getElem?_eq_some_iff.1 h1).1).trans h1
  have e2 : W.heap[B2]? = some (.cells #[.string s] 9 (0, 0)) := (hW.block _ (Array.getElem?_eq_some_iff.1 h2).1).trans h2
  have e3 : W.heap[b]? = some (.cells cs 3 (0, 0)) := (hW.block _ (Array.getElem?_eq_some_iff.1 hb).1).trans hb
  have n12 : B1 ≠ B2 := fun e => by rw [e, h2] at h1; simp at h1
  have n32 : b ≠ B2 := fun e => by rw [e, h2] at hb; simp at hb
  have c1 : W.cell? ⟨B1, 0, none⟩ = some (.slice (some ⟨b, 0, none⟩) zs.length c) := (blk_cell e1 0).trans rfl
  clear h1 h2 hb hW
  refine callsIn_of_wp Tryd.func69 rfl hF ?_ hro
  simp only [Tryd.ntmps69, List.size_toArray, List.length_cons, List.length_nil, Nat.reduceAdd, Nat.reduceSub, Array.replicate_succ, Array.replicate_zero, List.push_toArray, List.append_toArray, List.nil_append, List.cons_append]
  gi_wp2
  gi_loopw [10] (fun i wr => ∃ (k : Nat) (sk : ByteArray), k ≤ zs.length ∧ i = .int .i64 k ∧ J k wr ∧ wr.heap[B1]? = some (.cells #[.slice (some ⟨b, 0, none⟩) zs.length c] 92 (0, 0)) ∧ wr.heap[b]? = some (.cells cs 3 (0, 0)) ∧ wr.heap[B2]? = some (.cells #[.string sk] 9 (0, 0)) ∧ Hid (sk.size + ahead zs k = s.size) ∧ Hid (sk.data.toList = s.data.toList.drop (ahead zs k)))
    (fun i _ => zs.length - (intOf i).toNat)
  case atStart => exact ⟨0, s, Nat.zero_le _, rfl, h0, e1, e3, e2, (by simp [ahead] : _ = _), (by simp [ahead] : _ = _)⟩
  case round =>
    obtain ⟨k, sk, hk, rfl, hJk, e1, e3, e2, HS, HG⟩ := hrel
    by_cases hlt : k < zs.length
    · have hz := hcs k hlt
      have cz : wr.cell? ⟨b, k, none⟩ = some (.int .i64 (zs.getD k 0 : Nat)) := (blk_cell e3 k).trans hz
      have c2 : wr.cell? ⟨B2, 0, none⟩ = some (.string sk) := (blk_cell e2 0).trans rfl
      have f2 : wr.frozen? ⟨B2, 0, none⟩ = false := blk_frozen e2 0
      have hzk : ahead zs k + zs.getD k 0 ≤ s.size := by rw [← ahead_succ zs k hlt]; exact Nat.le_trans (ahead_le _ _) hsum
      have hsz := HS.out
      have hsu := ahead_succ zs k hlt
      obtain ⟨fn, tmps, assign, body, hy, hR⟩ := hY k (wr.setCell ⟨B2, 0, none⟩ (.string (sk.extract (zs.getD k 0) sk.size))) hlt (hJ k _ _ hJk (StepZ.setCell _ _ rfl))
      rw [← HG.out] at hy
      generalize hz0 : zs.getD k 0 = z at *
      have hzs : z ≤ sk.size := by omega
      have hsk : sk.size ≤ 1000 := by omega
      have HSU := Lib.hid hsu
      have HZ0 := Lib.hid hz0
      clear hcs hz hsz hzk c1 hsu hz0
      gi_wp2
      obtain ⟨wo, rfl⟩ : ∃ wo : World, wo = wr := ⟨_, rfl⟩
      gi_loop [6, 16] (fun a i => ∃ j : Nat, j ≤ z ∧ i = .int .i64 j ∧ a = .int .u64 (num64 sk.data.toList j)) (fun _ i => z - (intOf i).toNat)
      case atStart => exact ⟨0, Nat.zero_le _, rfl, rfl⟩
      case round =>
        obtain ⟨j, hj, rfl, rfl⟩ := hrel
        by_cases hjz : j < z
        · have hjs : j < sk.size := by omega
          gi_wp2
          refine ⟨⟨j + 1, by omega, by simp, by rw [num64, at_of_lt sk j hjs]⟩, by simp [intOf]; omega⟩
        · obtain rfl : j = z := by omega
          gi_wp2
          have q2 : (wo.setCell ⟨B2, 0, none⟩ (.string (sk.extract j sk.size))).heap[B2]? = some (.cells #[.string (sk.extract j sk.size)] 9 (0, 0)) := by simpa using blk_set e2 0 (.string (sk.extract j sk.size))
          have q1 := (Below.heap_setCell wo ⟨B2, 0, none⟩ (.string (sk.extract j sk.size)) B1 n12).trans e1
          have q3 := (Below.heap_setCell wo ⟨B2, 0, none⟩ (.string (sk.extract j sk.size)) b n32).trans e3
          refine hR.mono ?_
          rintro e W3 (⟨rfl, hJ3, hk3⟩ | ⟨rfl, hJx3, hk3⟩)
          · have p1 := hk3.at_ q1 (fun h => h (.inl rfl))
            have p2 := hk3.at_ q2 (fun h => h (.inr (.inl rfl)))
            have p3 := hk3.at_ q3 (fun h => h (.inr (.inr rfl)))
            clear q1 q2 q3 e1 e2 e3 c2 f2 cz hk3
            gi_wp2
            go_roundw
            case rel => exact ⟨k + 1, sk.extract j sk.size, by omega, by simp, hJ3, p1, p3, p2, (by have := HS.out; have := HSU.out; simp; omega : _ = _), (by rw [Lib.extract_to_end, HG.out, HSU.out, List.drop_drop] : _ = _)⟩
            case measure => simp [intOf]; omega
          · gi_wp2
            refine bodyPost_ret (results_none rfl _ _ _) rfl ?_
            exact ⟨⟨_, rfl⟩, .inr ⟨k, hlt, hJx3⟩⟩
    · obtain rfl : k = zs.length := by omega
      gi_wp2
      go_end0
      exact ⟨⟨_, rfl⟩, .inl hJk⟩
end Go.Proofs.YtoclldkgkmhgaaaDoor.K

namespace Go.Proofs.YtoclldkgkmhgaaaDoor.K
open Go.RowKit Go.MapKept Go.Proofs.YtoclldkgkmhgaaaDoor.Rng Go.Proofs.YtoclldkgkmhgaaaDoorW.PrintWords Go.Proofs.YtoclldkgkmhgaaaDoorW.PrintLast Go.Proofs.YtoclldkgkmhgaaaDoorW.PrintMore
set_option linter.unusedVariables false
set_option linter.unusedSimpArgs false
attribute [local go_sem] Oper.semAt_some

/-- Number k of a mail's bytes. -/
def numsM (s : ByteArray) (k : Nat) : Int := num64 (s.data.toList.drop (ahead [4, 8, 2, 8] k)) ([4, 8, 2, 8].getD k 0)
theorem mnumbers_calls (s : ByteArray) (a : Option Addr) (n c : Nat) (w : World) :
    Calls Tryd.prog 45 #[.string s, .slice a n c] w fun e w' => e = .returned (.func (.func 69) #[] #[.pointer (some ⟨w.heap.size + 1, 0, none⟩), .pointer (some ⟨w.heap.size, 0, none⟩)]) ∧ w' = (w.alloc (.cells #[.string s] 9)).alloc (.cells #[.slice a n c] 92) := by
  have hmf : ∀ (fn : Fn) (first cap : Array Value) (w : World), (Instr.makeFunc fn first cap).run Tryd.prog w = .ok (.func fn first cap) w := fun _ _ _ _ => rfl
  go_enter Tryd.func45, Tryd.ntmps45
  go_wp2
  go_ret
  exact ⟨rfl, rfl⟩

theorem four_step (W : World) (g : Nat) (v0 v1 v2 v3 : Value) : StepZ (fun b => b = g) W ((((W.setCell ⟨g, 0, none⟩ v0).setCell ⟨g, 1, none⟩ v1).setCell ⟨g, 2, none⟩ v2).setCell ⟨g, 3, none⟩ v3) := by
  have s0 : StepZ (fun b => b = g) W (W.setCell ⟨g, 0, none⟩ v0) := StepZ.setCell _ _ rfl
  have s1 : StepZ (fun b => b = g) (W.setCell ⟨g, 0, none⟩ v0) ((W.setCell ⟨g, 0, none⟩ v0).setCell ⟨g, 1, none⟩ v1) := StepZ.setCell _ _ rfl
  have s2 : StepZ (fun b => b = g) ((W.setCell ⟨g, 0, none⟩ v0).setCell ⟨g, 1, none⟩ v1) (((W.setCell ⟨g, 0, none⟩ v0).setCell ⟨g, 1, none⟩ v1).setCell ⟨g, 2, none⟩ v2) := StepZ.setCell _ _ rfl
  have s3 : StepZ (fun b => b = g) (((W.setCell ⟨g, 0, none⟩ v0).setCell ⟨g, 1, none⟩ v1).setCell ⟨g, 2, none⟩ v2) ((((W.setCell ⟨g, 0, none⟩ v0).setCell ⟨g, 1, none⟩ v1).setCell ⟨g, 2, none⟩ v2).setCell ⟨g, 3, none⟩ v3) := StepZ.setCell _ _ rfl
  exact ((s0.trans s1).trans s2).trans s3
theorem four_blk {W : World} {g t : Nat} {a b c d : Value} (h : W.heap[g]? = some (.cells #[a, b, c, d] t (0, 0))) (v0 v1 v2 v3 : Value) : ((((W.setCell ⟨g, 0, none⟩ v0).setCell ⟨g, 1, none⟩ v1).setCell ⟨g, 2, none⟩ v2).setCell ⟨g, 3, none⟩ v3).heap[g]? = some (.cells #[v0, v1, v2, v3] t (0, 0)) := by
  simpa using blk_set (blk_set (blk_set (blk_set h 0 v0) 1 v1) 2 v2) 3 v3

set_option maxRecDepth 100000 in
set_option maxHeartbeats 4000000 in
theorem mail_Parse.at22 (s : ByteArray) (w : World) (n0 n1 n2 n3 : Int) (r : Bool) (hL : Laid w) (hs : s.size = 22)
    (he : numsM s 0 % 4294967296 = n0 ∧ wrap64 (numsM s 1) = n1 ∧ IntKind.u16.wrap (numsM s 2) = n2 ∧ wrap64 (numsM s 3) = n3) (hr : mailOk n0 n1 n2 n3 = r) :
    Calls Tryd.prog 18 #[.string s] w fun e w' => e = .returned (if r = true then .tuple #[.agg #[.int .u32 n0, .int .i64 n1, .int .u16 n2, .int .i64 n3], .int .i64 0] else .tuple #[.agg #[.int .u32 0, .int .i64 0, .int .u16 0, .int .i64 0], .int .i64 140]) ∧ Below w.heap.size w w' := by
  have d : ((s.size : Int) != 22) = false := by rw [hs]; rfl
  have HS := Aside0.mk hs
  have HN := Aside0.mk mnumbers_calls
  have HR := Aside0.mk (fun (V : World) (hb : Below w.heap.size w V) => mail_Right.calls 2 n0 n1 n2 n3 r V (Laid_below hL hb) (by rw [mail_ok, hr]))
  have HE := Aside0.mk he
  have hu27 := Tryd.underlying27
  have hu25 := Tryd.underlying25
  clear hs he hL hr
  refine calls_of_wp_marks Tryd.func18 rfl ?_
  simp only [Tryd.ntmps18, List.size_toArray, List.length_cons, List.length_nil, Nat.reduceAdd, Nat.reduceSub, Array.replicate_succ, Array.replicate_zero, List.push_toArray, List.append_toArray, List.nil_append, List.cons_append]
  go_wp2_with fail
  go_step3
  go_wp2_with (go_at_call 45; refine (HN.out _ _ _ _ _).mono ?_; rintro e w2 ⟨rfl, rfl⟩)
  go_step3
  go_wp2_with (go_at_call 45; refine (HN.out _ _ _ _ _).mono ?_; rintro e w2 ⟨rfl, rfl⟩)
  have hr := alloc_old (.cells #[.slice (some ⟨w.heap.size + 1 + 1 + 1, 0, none⟩) 4 4] 92) (alloc_old (.cells #[.string s] 9) (alloc_old (.cells #[.int .i64 4, .int .i64 8, .int .i64 2, .int .i64 8] 3) (alloc_old (.cells #[.int .u32 0, .int .i64 0, .int .u16 0, .int .i64 0] 27) (alloc_old (.cells #[.int .u64 0, .int .u64 0, .int .u64 0, .int .u64 0] 67) ((MapKept.heap_alloc (w) (.cells #[.int .u32 0, .int .i64 0, .int .u16 0, .int .i64 0] 27)).1)))))
  have ha := alloc_old (.cells #[.slice (some ⟨w.heap.size + 1 + 1 + 1, 0, none⟩) 4 4] 92) (alloc_old (.cells #[.string s] 9) (alloc_old (.cells #[.int .i64 4, .int .i64 8, .int .i64 2, .int .i64 8] 3) (alloc_old (.cells #[.int .u32 0, .int .i64 0, .int .u16 0, .int .i64 0] 27) ((MapKept.heap_alloc (w.alloc (.cells #[.int .u32 0, .int .i64 0, .int .u16 0, .int .i64 0] 27)) (.cells #[.int .u64 0, .int .u64 0, .int .u64 0, .int .u64 0] 67)).1))))
  have hm := alloc_old (.cells #[.slice (some ⟨w.heap.size + 1 + 1 + 1, 0, none⟩) 4 4] 92) (alloc_old (.cells #[.string s] 9) (alloc_old (.cells #[.int .i64 4, .int .i64 8, .int .i64 2, .int .i64 8] 3) ((MapKept.heap_alloc ((w.alloc (.cells #[.int .u32 0, .int .i64 0, .int .u16 0, .int .i64 0] 27)).alloc (.cells #[.int .u64 0, .int .u64 0, .int .u64 0, .int .u64 0] 67)) (.cells #[.int .u32 0, .int .i64 0, .int .u16 0, .int .i64 0] 27)).1)))
  have hl := alloc_old (.cells #[.slice (some ⟨w.heap.size + 1 + 1 + 1, 0, none⟩) 4 4] 92) (alloc_old (.cells #[.string s] 9) ((MapKept.heap_alloc (((w.alloc (.cells #[.int .u32 0, .int .i64 0, .int .u16 0, .int .i64 0] 27)).alloc (.cells #[.int .u64 0, .int .u64 0, .int .u64 0, .int .u64 0] 67)).alloc (.cells #[.int .u32 0, .int .i64 0, .int .u16 0, .int .i64 0] 27)) (.cells #[.int .i64 4, .int .i64 8, .int .i64 2, .int .i64 8] 3)).1))
  have hs := alloc_old (.cells #[.slice (some ⟨w.heap.size + 1 + 1 + 1, 0, none⟩) 4 4] 92) ((MapKept.heap_alloc ((((w.alloc (.cells #[.int .u32 0, .int .i64 0, .int .u16 0, .int .i64 0] 27)).alloc (.cells #[.int .u64 0, .int .u64 0, .int .u64 0, .int .u64 0] 67)).alloc (.cells #[.int .u32 0, .int .i64 0, .int .u16 0, .int .i64 0] 27)).alloc (.cells #[.int .i64 4, .int .i64 8, .int .i64 2, .int .i64 8] 3)) (.cells #[.string s] 9)).1)
  have hz := (MapKept.heap_alloc (((((w.alloc (.cells #[.int .u32 0, .int .i64 0, .int .u16 0, .int .i64 0] 27)).alloc (.cells #[.int .u64 0, .int .u64 0, .int .u64 0, .int .u64 0] 67)).alloc (.cells #[.int .u32 0, .int .i64 0, .int .u16 0, .int .i64 0] 27)).alloc (.cells #[.int .i64 4, .int .i64 8, .int .i64 2, .int .i64 8] 3)).alloc (.cells #[.string s] 9)) (.cells #[.slice (some ⟨w.heap.size + 1 + 1 + 1, 0, none⟩) 4 4] 92)).1
  have hXB := below_alloc (below_alloc (below_alloc (below_alloc (below_alloc (below_alloc (Below.refl w.heap.size w) (.cells #[.int .u32 0, .int .i64 0, .int .u16 0, .int .i64 0] 27)) (.cells #[.int .u64 0, .int .u64 0, .int .u64 0, .int .u64 0] 67)) (.cells #[.int .u32 0, .int .i64 0, .int .u16 0, .int .i64 0] 27)) (.cells #[.int .i64 4, .int .i64 8, .int .i64 2, .int .i64 8] 3)) (.cells #[.string s] 9)) (.cells #[.slice (some ⟨w.heap.size + 1 + 1 + 1, 0, none⟩) 4 4] 92)
  have hXs : ((((((w.alloc (.cells #[.int .u32 0, .int .i64 0, .int .u16 0, .int .i64 0] 27)).alloc (.cells #[.int .u64 0, .int .u64 0, .int .u64 0, .int .u64 0] 67)).alloc (.cells #[.int .u32 0, .int .i64 0, .int .u16 0, .int .i64 0] 27)).alloc (.cells #[.int .i64 4, .int .i64 8, .int .i64 2, .int .i64 8] 3)).alloc (.cells #[.string s] 9)).alloc (.cells #[.slice (some ⟨w.heap.size + 1 + 1 + 1, 0, none⟩) 4 4] 92)).heap.size = w.heap.size + 6 := by simp
  simp only [World.size_alloc] at hr ha hm hl hs hz
  generalize (((((w.alloc (.cells #[.int .u32 0, .int .i64 0, .int .u16 0, .int .i64 0] 27)).alloc (.cells #[.int .u64 0, .int .u64 0, .int .u64 0, .int .u64 0] 67)).alloc (.cells #[.int .u32 0, .int .i64 0, .int .u16 0, .int .i64 0] 27)).alloc (.cells #[.int .i64 4, .int .i64 8, .int .i64 2, .int .i64 8] 3)).alloc (.cells #[.string s] 9)).alloc (.cells #[.slice (some ⟨w.heap.size + 1 + 1 + 1, 0, none⟩) 4 4] 92) = X at *
  obtain ⟨g, hg⟩ : ∃ g : Nat → Int, g = fun k => num64 (s.data.toList.drop (ahead [4, 8, 2, 8] k)) ([4, 8, 2, 8].getD k 0) := ⟨_, rfl⟩
  have hseq : SeqL Fence.wide 9 Tryd.prog 69 #[.pointer (some ⟨w.heap.size + 1 + 1 + 1 + 1 + 1, 0, none⟩), .pointer (some ⟨w.heap.size + 1 + 1 + 1 + 1, 0, none⟩)] (fun k => #[.int .i64 (k : Nat), .int .u64 (g k)]) 4 (fun _ k => k = w.heap.size + 1 + 1 + 1 + 1 + 1 ∨ k = w.heap.size + 1 + 1 + 1 + 1 ∨ k = w.heap.size + 1 + 1 + 1) (fun _ k => k = w.heap.size + 1 + 1 + 1 + 1) X := by
    rw [hg]
    have h2 := HS.out
    exact mnumbers1 Fence.wide 9 trivial rfl (by omega) (w.heap.size + 1 + 1 + 1 + 1 + 1) (w.heap.size + 1 + 1 + 1 + 1) (w.heap.size + 1 + 1 + 1) 4 [4, 8, 2, 8] s X (by simp) (by simp; omega) (by omega) hz hs ⟨_, hl, fun j hj => by
      match j, hj with
      | 0, _ => rfl
      | 1, _ => rfl
      | 2, _ => rfl
      | 3, _ => rfl⟩
  refine wp_rangeFunc_L (w := X) (gf := 69) rfl (enters_of Tryd.func69 (by kernel_rfl) rfl) hseq (Below.refl _ _) (fun _ => rfl) (fun b hb => by have e : b = w.heap.size + 1 + 1 + 1 + 1 := hb; omega) (fun b hb => by have e : b = w.heap.size + 1 + 1 + 1 + 1 + 1 ∨ b = w.heap.size + 1 + 1 + 1 + 1 ∨ b = w.heap.size + 1 + 1 + 1 := hb; omega)
    (fun k W => W.heap[w.heap.size]? = some (.cells #[.int .u32 0, .int .i64 0, .int .u16 0, .int .i64 0] 27 (0, 0)) ∧ (∃ cs, W.heap[w.heap.size + 1]? = some (.cells cs 67 (0, 0)) ∧ cs.size = 4 ∧ Hid (∀ j, j < k → cs[j]? = some (.int .u64 (g j)))) ∧ W.heap[w.heap.size + 1 + 1]? = some (.cells #[.int .u32 0, .int .i64 0, .int .u16 0, .int .i64 0] 27 (0, 0)) ∧ Below w.heap.size w W)
    (fun _ _ _ => False)
    ?hI ?hIx ?h0 ?hround ?hdone ?hstop
  case hI =>
    rintro k A B ⟨h1, ⟨cs, h2, h3, h4⟩, h5, h6⟩ hst
    exact ⟨hst.at_ h1 (by show ¬ (w.heap.size = w.heap.size + 1 + 1 + 1 + 1 ∨ w.heap.size = X.heap.size + 1); omega), ⟨cs, hst.at_ h2 (by show ¬ (w.heap.size + 1 = w.heap.size + 1 + 1 + 1 + 1 ∨ w.heap.size + 1 = X.heap.size + 1); omega), h3, h4⟩, hst.at_ h5 (by show ¬ (w.heap.size + 1 + 1 = w.heap.size + 1 + 1 + 1 + 1 ∨ w.heap.size + 1 + 1 = X.heap.size + 1); omega), h6.trans (hst.below (by have := h6.size; omega) (fun j hj => by show ¬ (j = w.heap.size + 1 + 1 + 1 + 1 ∨ j = X.heap.size + 1); omega))⟩
  case hIx => rintro c k A B h; exact h.elim
  case h0 => exact ⟨alloc_old _ (alloc_old _ hr), ⟨_, alloc_old _ (alloc_old _ ha), rfl, (fun j hj => absurd hj (Nat.not_lt_zero _) : ∀ j, j < 0 → _)⟩, alloc_old _ (alloc_old _ hm), below_alloc (below_alloc hXB _) _⟩
  case hstop => rintro c k W _ h; exact h.elim
  case hround =>
    intro k W hk hi hsz
    have HX3 := Lib.hid hXs
    clear hXs hseq hg hXB hr ha hm hl hs hz
    gi_wp2
    refine ⟨StepZ.refl _ _, ?_⟩
    intro Wb hst
    have hXs := HX3.out
    obtain ⟨h1, ⟨cs, h2, h3, h4⟩, h5, h6⟩ := hi
    replace h1 := hst.at_ h1 (by show w.heap.size ≠ X.heap.size + 1; omega)
    replace h2 := hst.at_ h2 (by show w.heap.size + 1 ≠ X.heap.size + 1; omega)
    replace h5 := hst.at_ h5 (by show w.heap.size + 1 + 1 ≠ X.heap.size + 1; omega)
    have h7 : Below w.heap.size w Wb := h6.trans (hst.below (by have := h6.size; omega) (fun j hj => by show j ≠ X.heap.size + 1; omega))
    have hc : Wb.cell? ⟨w.heap.size + 1, k, none⟩ = some (cs[k]'(by omega)) := (blk_cell h2 k).trans (Array.getElem?_eq_getElem (by omega))
    have hf : Wb.frozen? ⟨w.heap.size + 1, k, none⟩ = false := blk_frozen h2 k
    have H7 := Aside0.mk h7
    clear h6 hst h7 hXs
    have hne : ((k : Int) == 4) = false := by simpa using (by omega : ¬ (k : Int) = 4)
    gi_wp2
    have ST : StepZ (fun b => b = w.heap.size + 1) Wb (Wb.setCell ⟨w.heap.size + 1, k, none⟩ (.int .u64 (g k))) := StepZ.setCell _ _ rfl
    have hxs := HX3.out
    refine ⟨ST.mono (fun b _ hb => by omega), ST.at_ h1 (by omega), ⟨_, blk_set h2 k _, by simp [h3], ?_⟩, ST.at_ h5 (by omega), H7.out.trans (ST.below (by have := H7.out.size; omega) (fun i hi => by omega))⟩
    show ∀ i, i < k + 1 → _
    intro i hi
    by_cases e : i = k
    · subst e
      exact Array.getElem?_setIfInBounds_self_of_lt (by omega)
    · rw [Array.getElem?_setIfInBounds_ne (by omega)]
      exact h4.out i (by omega)
  case hdone =>
    rintro W ⟨h1, ⟨cs, h2, h3, h4⟩, h5, h6⟩ hsz hD
    have c0 : W.cell? ⟨w.heap.size + 1, 0, none⟩ = some (.int .u64 (g 0)) := (blk_cell h2 0).trans (h4.out 0 (by omega))
    have c1 : W.cell? ⟨w.heap.size + 1, 1, none⟩ = some (.int .u64 (g 1)) := (blk_cell h2 1).trans (h4.out 1 (by omega))
    have c2 : W.cell? ⟨w.heap.size + 1, 2, none⟩ = some (.int .u64 (g 2)) := (blk_cell h2 2).trans (h4.out 2 (by omega))
    have c3 : W.cell? ⟨w.heap.size + 1, 3, none⟩ = some (.int .u64 (g 3)) := (blk_cell h2 3).trans (h4.out 3 (by omega))
    have m0 := (blk_cell h5 0).trans rfl
    have m1 := (blk_cell h5 1).trans rfl
    have m2 := (blk_cell h5 2).trans rfl
    have m3 := (blk_cell h5 3).trans rfl
    have f0 := blk_frozen h5 0
    have f1 := blk_frozen h5 1
    have f2 := blk_frozen h5 2
    have f3 := blk_frozen h5 3
    have E0 : Aside0 (g 0 % 4294967296 = n0) := ⟨by rw [hg]; exact HE.out.1⟩
    have E1 : Aside0 (wrap64 (g 1) = n1) := ⟨by rw [hg]; exact HE.out.2.1⟩
    have E2 : Aside0 (IntKind.u16.wrap (g 2) = n2) := ⟨by rw [hg]; exact HE.out.2.2.1⟩
    have E3 : Aside0 (wrap64 (g 3) = n3) := ⟨by rw [hg]; exact HE.out.2.2.2⟩
    have mY := four_blk h5 (.int .u32 n0) (.int .i64 n1) (.int .u16 n2) (.int .i64 n3)
    have sY := four_step W (w.heap.size + 1 + 1) (.int .u32 n0) (.int .i64 n1) (.int .u16 n2) (.int .i64 n3)
    have rY := sY.at_ h1 (by omega)
    have dY := sY.at_ hD (by omega)
    have bY := h6.trans (sY.below (by have := h6.size; omega) (fun i hi => by omega))
    have MY := Aside0.mk mY
    have RY := Aside0.mk rY
    have DY := Aside0.mk dY
    have BY := Aside0.mk bY
    have HX3 := Lib.hid hXs
    clear h1 h2 h3 h4 h5 h6 hsz hD hXs hseq hg hXB hr ha hm hl hs hz mY sY rY dY bY HE HN HS
    have hltX : w.heap.size < X.heap.size := by have := HX3.out; omega
    cases r with
    | true =>
      go_wp2_with (go_at_call 20; rw [E0.out, E1.out, E2.out, E3.out]; generalize (((W.setCell ⟨w.heap.size + 1 + 1, 0, none⟩ (.int .u32 n0)).setCell ⟨w.heap.size + 1 + 1, 1, none⟩ (.int .i64 n1)).setCell ⟨w.heap.size + 1 + 1, 2, none⟩ (.int .u16 n2)).setCell ⟨w.heap.size + 1 + 1, 3, none⟩ (.int .i64 n3) = Y at *; refine (HR.out _ BY.out).mono ?_; rintro e w3 ⟨rfl, hb3⟩; have m3_ := keepW hb3 MY.out; have r3_ := keepW hb3 RY.out; have D3 := Aside0.mk (keepW hb3 DY.out); have B3 := Aside0.mk (below_step BY.out hb3); have q0 := (blk_cell m3_ 0).trans rfl; have q1 := (blk_cell m3_ 1).trans rfl; have q2 := (blk_cell m3_ 2).trans rfl; have q3 := (blk_cell m3_ 3).trans rfl; have p0 := (blk_cell r3_ 0).trans rfl; have p1 := (blk_cell r3_ 1).trans rfl; have p2 := (blk_cell r3_ 2).trans rfl; have p3 := (blk_cell r3_ 3).trans rfl; have g0_ := blk_frozen r3_ 0; have g1_ := blk_frozen r3_ 1; have g2_ := blk_frozen r3_ 2; have g3_ := blk_frozen r3_ 3; have R3 := Aside0.mk r3_; clear hb3 m3_ r3_)
      try rw [Exit.noGoto_ret]
      have mE := four_blk R3.out (.int .u32 n0) (.int .i64 n1) (.int .u16 n2) (.int .i64 n3)
      have sE := four_step w3 w.heap.size (.int .u32 n0) (.int .i64 n1) (.int .u16 n2) (.int .i64 n3)
      have dE := sE.at_ D3.out (by omega)
      have bE := B3.out.trans (sE.below (by have := B3.out.size; omega) (fun i hi => by omega))
      clear sE p0 p1 p2 p3
      generalize ((((w3.setCell ⟨w.heap.size, 0, none⟩ (.int .u32 n0)).setCell ⟨w.heap.size, 1, none⟩ (.int .i64 n1)).setCell ⟨w.heap.size, 2, none⟩ (.int .u16 n2)).setCell ⟨w.heap.size, 3, none⟩ (.int .i64 n3)) = E at *
      have zE : (E.putObj X.heap.size (.deferred none)).heap[w.heap.size]? = some (.cells #[.int .u32 n0, .int .i64 n1, .int .u16 n2, .int .i64 n3] 27 (0, 0)) := (World.putObj_heap_other (by omega)).trans mE
      have z0 := (blk_cell zE 0).trans rfl
      have z1 := (blk_cell zE 1).trans rfl
      have z2 := (blk_cell zE 2).trans rfl
      have z3 := (blk_cell zE 3).trans rfl
      refine leave_marked dE (v := .tuple #[.agg #[.int .u32 n0, .int .i64 n1, .int .u16 n2, .int .i64 n3], .int .i64 0]) (by simp [results, Tryd.results18, go_sem, z0, z1, z2, z3]) ⟨by rw [if_pos rfl], ?_⟩
      exact bE.trans ((StepZ.putObj (Z := fun b => b = X.heap.size) E (.deferred none) rfl).below (by have := bE.size; omega) (fun k hk => by omega))
    | false =>
      go_wp2_with (go_at_call 20; rw [E0.out, E1.out, E2.out, E3.out]; generalize (((W.setCell ⟨w.heap.size + 1 + 1, 0, none⟩ (.int .u32 n0)).setCell ⟨w.heap.size + 1 + 1, 1, none⟩ (.int .i64 n1)).setCell ⟨w.heap.size + 1 + 1, 2, none⟩ (.int .u16 n2)).setCell ⟨w.heap.size + 1 + 1, 3, none⟩ (.int .i64 n3) = Y at *; refine (HR.out _ BY.out).mono ?_; rintro e w3 ⟨rfl, hb3⟩; have r3_ := keepW hb3 RY.out; have D3 := Aside0.mk (keepW hb3 DY.out); have B3 := Aside0.mk (below_step BY.out hb3); have p0 := (blk_cell r3_ 0).trans rfl; have p1 := (blk_cell r3_ 1).trans rfl; have p2 := (blk_cell r3_ 2).trans rfl; have p3 := (blk_cell r3_ 3).trans rfl; have g0_ := blk_frozen r3_ 0; have g1_ := blk_frozen r3_ 1; have g2_ := blk_frozen r3_ 2; have g3_ := blk_frozen r3_ 3; have R3 := Aside0.mk r3_; clear hb3 r3_)
      go_step3
      go_wp2
      try rw [Exit.noGoto_ret]
      have mE := four_blk R3.out (.int .u32 0) (.int .i64 0) (.int .u16 0) (.int .i64 0)
      have sE := four_step w3 w.heap.size (.int .u32 0) (.int .i64 0) (.int .u16 0) (.int .i64 0)
      have dE := sE.at_ D3.out (by omega)
      have bE := B3.out.trans (sE.below (by have := B3.out.size; omega) (fun i hi => by omega))
      clear sE p0 p1 p2 p3
      generalize ((((w3.setCell ⟨w.heap.size, 0, none⟩ (.int .u32 0)).setCell ⟨w.heap.size, 1, none⟩ (.int .i64 0)).setCell ⟨w.heap.size, 2, none⟩ (.int .u16 0)).setCell ⟨w.heap.size, 3, none⟩ (.int .i64 0)) = E at *
      have zE : (E.putObj X.heap.size (.deferred none)).heap[w.heap.size]? = some (.cells #[.int .u32 0, .int .i64 0, .int .u16 0, .int .i64 0] 27 (0, 0)) := (World.putObj_heap_other (by omega)).trans mE
      have z0 := (blk_cell zE 0).trans rfl
      have z1 := (blk_cell zE 1).trans rfl
      have z2 := (blk_cell zE 2).trans rfl
      have z3 := (blk_cell zE 3).trans rfl
      refine leave_marked dE (v := .tuple #[.agg #[.int .u32 0, .int .i64 0, .int .u16 0, .int .i64 0], .int .i64 140]) (by simp [results, Tryd.results18, go_sem, z0, z1, z2, z3]) ⟨by rw [if_neg (by simp)], ?_⟩
      exact bE.trans ((StepZ.putObj (Z := fun b => b = X.heap.size) E (.deferred none) rfl).below (by have := bE.size; omega) (fun k hk => by omega))
end Go.Proofs.YtoclldkgkmhgaaaDoor.K

namespace Go.Proofs.YtoclldkgkmhgaaaDoor.K
open Go.RowKit Go.MapKept Go.Proofs.YtoclldkgkmhgaaaDoorW.PrintWords Go.Proofs.YtoclldkgkmhgaaaDoorW.PrintLast Go.Proofs.YtoclldkgkmhgaaaDoorW.PrintMore
set_option linter.unusedVariables false

/-- What mail.Parse tells of bytes of a mail's length. -/
def mpF (s : ByteArray) : Int × Int × Int × Int × Int :=
  if mailOk (numsM s 0 % 4294967296) (wrap64 (numsM s 1)) (IntKind.u16.wrap (numsM s 2)) (wrap64 (numsM s 3)) = true then (numsM s 0 % 4294967296, wrap64 (numsM s 1), IntKind.u16.wrap (numsM s 2), wrap64 (numsM s 3), 0) else (0, 0, 0, 0, 140)
def mail_Parse.f (a0 : ByteArray) : Option (Int × Int × Int × Int × Int) := if a0.size = 22 then some (mpF a0) else some (0, 0, 0, 0, 140)
theorem mail_Parse.calls (a0 : ByteArray) (r1 : Int) (r2 : Int) (r3 : Int) (r4 : Int) (r5 : Int) (w : World) (hL : Laid w) (h : mail_Parse.f a0 = some (r1, r2, r3, r4, r5)) :
    Calls Tryd.prog 18 #[.string a0] w fun e w' => e = .returned (.tuple #[.agg #[.int .u32 r1, .int .i64 r2, .int .u16 r3, .int .i64 r4], .int .i64 r5]) ∧ Below w.heap.size w w' := by
  unfold mail_Parse.f mpF at h
  by_cases hs : a0.size = 22
  · rw [if_pos hs] at h
    cases hr : mailOk (numsM a0 0 % 4294967296) (wrap64 (numsM a0 1)) (IntKind.u16.wrap (numsM a0 2)) (wrap64 (numsM a0 3)) with
    | true =>
      rw [if_pos hr] at h
      simp only [Option.some.injEq, Prod.mk.injEq] at h
      obtain ⟨rfl, rfl, rfl, rfl, rfl⟩ := h
      exact mail_Parse.at22 a0 w _ _ _ _ true hL hs ⟨rfl, rfl, rfl, rfl⟩ hr
    | false =>
      rw [if_neg (by rw [hr]; simp)] at h
      simp only [Option.some.injEq, Prod.mk.injEq] at h
      obtain ⟨rfl, rfl, rfl, rfl, rfl⟩ := h
      exact mail_Parse.at22 a0 w _ _ _ _ false hL hs ⟨rfl, rfl, rfl, rfl⟩ hr
  · rw [if_neg hs] at h
    simp only [Option.some.injEq, Prod.mk.injEq] at h
    obtain ⟨rfl, rfl, rfl, rfl, rfl⟩ := h
    exact mail_Parse.no a0 w hs
end Go.Proofs.YtoclldkgkmhgaaaDoor.K
