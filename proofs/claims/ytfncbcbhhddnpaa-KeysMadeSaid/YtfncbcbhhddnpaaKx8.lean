-- Printed by a program of this session (a turned copy of the print); what it takes as given stands in the seat's own texts.
import Derived.Test.YtfncbcbhhddnpaaKx0
namespace Go.Proofs.Ytfncbcbhhddnpaa.K
open Go.RowKit Go.Proofs.YtfncbcbhhddnpaaW.PrintWords Go.Proofs.YtfncbcbhhddnpaaW.PrintLast Go.Proofs.YtfncbcbhhddnpaaW.PrintMore
attribute [local go_sem] max2_int min2_int max_two min_two max_three min_three max_four min_four   -- for this text's walks alone
set_option linter.unusedVariables false
set_option linter.unusedSimpArgs false

/-! ### bazaarref10_Right: function 14 -/
def bazaarref10_Right.j0 : Nat → Bool → Int → Int → Int → Int → Option (Bool)
  | 0, _, _, _, _, _ => none
  | k + 1, x3, x148000, x148001, x148002, x148003 => if x148000 = 1 then (if x3 = true then (if x148002 = 0 then (some (x148003 == 0)) else (some false)) else (some false)) else (if x148000 = 2 then (if x3 = true then (some (x148003 == 0)) else (some false)) else (if x148000 = 3 then (if x3 = true then (if x148002 = 0 then (if x148003 ≥ 1 then (some (decide (x148003 ≤ 1073741824))) else (some false)) else (some false)) else (some false)) else (if x148000 = 4 then (if x148001 ≥ 1 then (if x148001 ≤ 1073741824 then (if x148002 = 0 then (some (x148003 == 0)) else (some false)) else (some false)) else (some false)) else (if x148000 = 5 then (if x148001 = 1 then (if x148002 = 0 then (some (x148003 == 0)) else (some false)) else (if x148001 = 2 then (if x148002 = 0 then (some (x148003 == 0)) else (some false)) else (some false))) else (if x148000 = 6 then (if x148001 ≤ 1 then (some (x148003 == 0)) else (some false)) else (some false))))))
def bazaarref10_Right.f (k : Nat) (a0_0 : Int) (a0_1 : Int) (a0_2 : Int) (a0_3 : Int) : Option (Bool) := if a0_1 ≥ 1 then (bazaarref10_Right.j0 k (decide (a0_1 ≤ 1000000)) a0_0 a0_1 a0_2 a0_3) else (bazaarref10_Right.j0 k false a0_0 a0_1 a0_2 a0_3)
theorem bazaarref10_Right.mono_l : ∀ k, (∀ y0 y1 y2 y3 y4, LeO (bazaarref10_Right.j0 k y0 y1 y2 y3 y4) (bazaarref10_Right.j0 (k + 1) y0 y1 y2 y3 y4))
  | 0 => fun _ _ _ _ _ r h => by simp [bazaarref10_Right.j0] at h
  | k + 1 => by
    have ih0 := bazaarref10_Right.mono_l k
    · intro y0 y1 y2 y3 y4
      unfold bazaarref10_Right.j0
      repeat' first
      | (with_reducible exact ih0 _ _ _ _ _)
      | (with_reducible exact LeO.refl _)
      | (with_reducible exact LeO.none _)
      | (with_reducible refine LeO.ite ?_ ?_)
      | (with_reducible refine LeO.bind ?_ (fun _ => ?_))
      | exact ih0 _ _ _ _ _
      | exact LeO.none _
      | refine LeO.ite ?_ ?_
      | refine LeO.bind ?_ (fun _ => ?_)
theorem bazaarref10_Right.mono : ∀ a0 a1 a2 a3 k, LeO (bazaarref10_Right.f k a0 a1 a2 a3) (bazaarref10_Right.f (k + 1) a0 a1 a2 a3) := by
  intro a0 a1 a2 a3 k
  have ih0 := bazaarref10_Right.mono_l k
  unfold bazaarref10_Right.f
  repeat' first
      | (with_reducible exact ih0 _ _ _ _ _)
      | (with_reducible exact LeO.refl _)
      | (with_reducible exact LeO.none _)
      | (with_reducible refine LeO.ite ?_ ?_)
      | (with_reducible refine LeO.bind ?_ (fun _ => ?_))
      | exact ih0 _ _ _ _ _
      | exact LeO.none _
      | refine LeO.ite ?_ ?_
      | refine LeO.bind ?_ (fun _ => ?_)
set_option maxHeartbeats 8000000 in
set_option maxRecDepth 100000 in
theorem bazaarref10_Right.calls (k : Nat) (a0_0 : Int) (a0_1 : Int) (a0_2 : Int) (a0_3 : Int) (r : Bool) (w : World) (h : bazaarref10_Right.f k a0_0 a0_1 a0_2 a0_3 = some r) :
    Calls Try.prog 14 #[.agg #[.int .i64 a0_0, .int .u32 a0_1, .int .u16 a0_2, .int .u32 a0_3]] w fun e w' => e = .returned (.bool r) ∧ Below w.heap.size w w' := by
  have hu25 := Try.underlying25
  have HB := Aside0.mk (Below.refl w.heap.size w)
  have H : (if a0_1 ≥ 1 then (bazaarref10_Right.j0 k (decide (a0_1 ≤ 1000000)) a0_0 a0_1 a0_2 a0_3) else (bazaarref10_Right.j0 k false a0_0 a0_1 a0_2 a0_3)) = some r := h
  clear h
  have HC2 := Aside0.mk H
  clear H
  go_enter Try.func14, Try.ntmps14
  go_upto_region 1 with (first | ((with_reducible refine gate_dst (N := 1) rfl ?_); refine box_event ?hg (N := 1) ?hd (cs := #[.int .i64 a0_0, .int .u32 a0_1, .int .u16 a0_2, .int .u32 a0_3]) (t := 25) ?hr ?_; (case hd => rfl); (case hg => rfl); (case hr => first | (go_simp; done) | (go_simp; rfl)); intro gb147 hg w3 hbox hb; have n0_ := Aside0.mk (below_step (by repeat (first | (with_reducible first | exact HB.out | apply below_alloc | apply pw_below_drewN | apply below_drew1) | exact HB.out)) hb); have n1_ := Aside0.mk (hbox); have n2_ := Aside0.mk ((by rw [hg]; exact (below_size (by repeat (first | (with_reducible first | exact HB.out | apply below_alloc | apply pw_below_drewN | apply below_drew1) | exact HB.out))) : w.heap.size ≤ gb147)); have n3_ := Aside0.mk ((by rw [hg]; exact (below_size (by repeat (first | (with_reducible first | exact HB.out | apply below_alloc | apply pw_below_drewN | apply below_drew1) | exact HB.out))) : w.heap.size ≤ gb147)); clear HB; have HB := n0_; have BK147 := n1_; have GW147 := n2_; have GE147 := n3_; clear n0_ n1_ n2_ n3_; clear hb hbox hg))
  (try simp only [Act.put, List.setIfInBounds_toArray, List.set_cons_zero, List.set_cons_succ])
  go_cut [3] (fun v3 wc => ∃ (kq : Nat) (x3_1 : Bool), v3 = .bool x3_1 ∧ Aside0 (bazaarref10_Right.j0 kq x3_1 a0_0 a0_1 a0_2 a0_3 = some r) ∧ Aside0 (kq ≤ k) ∧ Aside0 (wc.heap[gb147]? = some (.cells #[.int .i64 a0_0, .int .u32 a0_1, .int .u16 a0_2, .int .u32 a0_3] 25 (0, 0))) ∧ Aside0 (Below w.heap.size w wc))
  case first =>
    have H := HC2.out
    clear HC2
    by_cases c4 : a0_1 ≥ 1
    · rw [if_pos c4] at H
      have c4b0 : decide (1 ≤ a0_1) = true := decide_eq_true c4
      clear c4
      (first | rw [c4b0] | (simp only [i64_w, i32_w]; rw [c4b0]) | skip)
      have H' := Aside0.mk H
      clear H
      have hcz5_0 : w3.cell? ⟨gb147, 0, none⟩ = some (.int .i64 a0_0) := (blk_cell BK147.out 0).trans rfl
      have hcz5_1 : w3.cell? ⟨gb147, 1, none⟩ = some (.int .u32 a0_1) := (blk_cell BK147.out 1).trans rfl
      have hcz5_2 : w3.cell? ⟨gb147, 2, none⟩ = some (.int .u16 a0_2) := (blk_cell BK147.out 2).trans rfl
      have hcz5_3 : w3.cell? ⟨gb147, 3, none⟩ = some (.int .u32 a0_3) := (blk_cell BK147.out 3).trans rfl
      have hfz5_0 := blk_frozen BK147.out 0
      have hfz5_1 := blk_frozen BK147.out 1
      have hfz5_2 := blk_frozen BK147.out 2
      have hfz5_3 := blk_frozen BK147.out 3
      go_wp2
      go_meet
      case rel => exact ⟨_, (decide (a0_1 ≤ 1000000)), (by first | rfl | (simp; done) | (simp [*]; done)), H', ⟨by first | omega | exact Nat.le_refl _⟩, ⟨by (with_reducible repeat (first | refine blk_drewN ?_ _ | refine blk_drew ?_ | refine blk_alloc ?_ _)); exact BK147.out⟩, ⟨by repeat (first | (with_reducible first | exact HB.out | apply below_alloc | apply pw_below_drewN | apply below_drew1 | refine below_set ?_ GE147.out) | exact HB.out)⟩⟩
    · rw [if_neg c4] at H
      have c4b0 : decide (1 ≤ a0_1) = false := decide_eq_false c4
      clear c4
      (first | rw [c4b0] | (simp only [i64_w, i32_w]; rw [c4b0]) | skip)
      have H' := Aside0.mk H
      clear H
      have hcz6_0 : w3.cell? ⟨gb147, 0, none⟩ = some (.int .i64 a0_0) := (blk_cell BK147.out 0).trans rfl
      have hcz6_1 : w3.cell? ⟨gb147, 1, none⟩ = some (.int .u32 a0_1) := (blk_cell BK147.out 1).trans rfl
      have hcz6_2 : w3.cell? ⟨gb147, 2, none⟩ = some (.int .u16 a0_2) := (blk_cell BK147.out 2).trans rfl
      have hcz6_3 : w3.cell? ⟨gb147, 3, none⟩ = some (.int .u32 a0_3) := (blk_cell BK147.out 3).trans rfl
      have hfz6_0 := blk_frozen BK147.out 0
      have hfz6_1 := blk_frozen BK147.out 1
      have hfz6_2 := blk_frozen BK147.out 2
      have hfz6_3 := blk_frozen BK147.out 3
      go_wp2
      go_meet
      case rel => exact ⟨_, (false), (by first | rfl | (simp; done) | (simp [*]; done)), H', ⟨by first | omega | exact Nat.le_refl _⟩, ⟨by (with_reducible repeat (first | refine blk_drewN ?_ _ | refine blk_drew ?_ | refine blk_alloc ?_ _)); exact BK147.out⟩, ⟨by repeat (first | (with_reducible first | exact HB.out | apply below_alloc | apply pw_below_drewN | apply below_drew1 | refine below_set ?_ GE147.out) | exact HB.out)⟩⟩
  case rest =>
    clear HC2
    try clear c1
    try clear p2
    try clear c4
    try clear c4b0
    try clear hcz5_0
    try clear hcz5_1
    try clear hcz5_2
    try clear hcz5_3
    try clear hcz6_0
    try clear hcz6_1
    try clear hcz6_2
    try clear hcz6_3
    try clear hfz5_0
    try clear hfz5_1
    try clear hfz5_2
    try clear hfz5_3
    try clear hfz6_0
    try clear hfz6_1
    try clear hfz6_2
    try clear hfz6_3
    obtain ⟨kq, x3_1, rfl, HA, HJ1, BK147, HB⟩ := hcut
    cases kq with
    | zero => exact absurd HA.out (by simp [bazaarref10_Right.j0])
    | succ kj1 =>
      have H := HA.out
      clear HA
      simp only [bazaarref10_Right.j0] at H
      by_cases c7 : a0_0 = 1
      · rw [if_pos c7] at H
        have c7b0 : (a0_0 == 1) = true := beq_iff_eq.mpr c7
        have c7b1 : (a0_0 != 1) = false := bne_eq_false_iff_eq.mpr c7
        clear c7
        by_cases c8 : x3_1 = true
        · subst c8
          have H1 : (if a0_2 = 0 then (some (a0_3 == 0)) else (some false)) = some r := by rw [if_pos rfl] at H; exact H
          clear H
          have H := H1
          clear H1
          by_cases c9 : a0_2 = 0
          · rw [if_pos c9] at H
            have c9b0 : (a0_2 == 0) = true := beq_iff_eq.mpr c9
            have c9b1 : (a0_2 != 0) = false := bne_eq_false_iff_eq.mpr c9
            clear c9
            obtain rfl := Option.some.inj H
            have hcz10_0 : wc.cell? ⟨gb147, 0, none⟩ = some (.int .i64 a0_0) := (blk_cell BK147.out 0).trans rfl
            have hcz10_1 : wc.cell? ⟨gb147, 1, none⟩ = some (.int .u32 a0_1) := (blk_cell BK147.out 1).trans rfl
            have hcz10_2 : wc.cell? ⟨gb147, 2, none⟩ = some (.int .u16 a0_2) := (blk_cell BK147.out 2).trans rfl
            have hcz10_3 : wc.cell? ⟨gb147, 3, none⟩ = some (.int .u32 a0_3) := (blk_cell BK147.out 3).trans rfl
            have hfz10_0 := blk_frozen BK147.out 0
            have hfz10_1 := blk_frozen BK147.out 1
            have hfz10_2 := blk_frozen BK147.out 2
            have hfz10_3 := blk_frozen BK147.out 3
            go_wp2
            go_ret
            exact ⟨by first | rfl | (simp [errW_none, errW_some] <;> rfl) | (simp [*, errW_none, errW_some] <;> rfl), by repeat (first | (with_reducible first | exact HB.out | apply below_alloc | apply pw_below_drewN | apply below_drew1 | refine below_set ?_ GE147.out) | exact HB.out)⟩
          · rw [if_neg c9] at H
            have c9b0 : (a0_2 == 0) = false := beq_eq_false_iff_ne.mpr c9
            have c9b1 : (a0_2 != 0) = true := bne_iff_ne.mpr c9
            obtain rfl := Option.some.inj H
            have hcz11_0 : wc.cell? ⟨gb147, 0, none⟩ = some (.int .i64 a0_0) := (blk_cell BK147.out 0).trans rfl
            have hcz11_1 : wc.cell? ⟨gb147, 1, none⟩ = some (.int .u32 a0_1) := (blk_cell BK147.out 1).trans rfl
            have hcz11_2 : wc.cell? ⟨gb147, 2, none⟩ = some (.int .u16 a0_2) := (blk_cell BK147.out 2).trans rfl
            have hcz11_3 : wc.cell? ⟨gb147, 3, none⟩ = some (.int .u32 a0_3) := (blk_cell BK147.out 3).trans rfl
            have hfz11_0 := blk_frozen BK147.out 0
            have hfz11_1 := blk_frozen BK147.out 1
            have hfz11_2 := blk_frozen BK147.out 2
            have hfz11_3 := blk_frozen BK147.out 3
            go_wp2
            go_ret
            exact ⟨by first | rfl | (simp [errW_none, errW_some] <;> rfl) | (simp [*, errW_none, errW_some] <;> rfl), by repeat (first | (with_reducible first | exact HB.out | apply below_alloc | apply pw_below_drewN | apply below_drew1 | refine below_set ?_ GE147.out) | exact HB.out)⟩
        · replace c8 := Bool.eq_false_iff.mpr c8
          subst c8
          have H1 : (some false) = some r := by rw [if_neg (show ¬ (false = true) by decide)] at H; exact H
          clear H
          have H := H1
          clear H1
          obtain rfl := Option.some.inj H
          have hcz12_0 : wc.cell? ⟨gb147, 0, none⟩ = some (.int .i64 a0_0) := (blk_cell BK147.out 0).trans rfl
          have hcz12_1 : wc.cell? ⟨gb147, 1, none⟩ = some (.int .u32 a0_1) := (blk_cell BK147.out 1).trans rfl
          have hcz12_2 : wc.cell? ⟨gb147, 2, none⟩ = some (.int .u16 a0_2) := (blk_cell BK147.out 2).trans rfl
          have hcz12_3 : wc.cell? ⟨gb147, 3, none⟩ = some (.int .u32 a0_3) := (blk_cell BK147.out 3).trans rfl
          have hfz12_0 := blk_frozen BK147.out 0
          have hfz12_1 := blk_frozen BK147.out 1
          have hfz12_2 := blk_frozen BK147.out 2
          have hfz12_3 := blk_frozen BK147.out 3
          go_wp2
          go_ret
          exact ⟨by first | rfl | (simp [errW_none, errW_some] <;> rfl) | (simp [*, errW_none, errW_some] <;> rfl), by repeat (first | (with_reducible first | exact HB.out | apply below_alloc | apply pw_below_drewN | apply below_drew1 | refine below_set ?_ GE147.out) | exact HB.out)⟩
      · rw [if_neg c7] at H
        have c7b0 : (a0_0 == 1) = false := beq_eq_false_iff_ne.mpr c7
        have c7b1 : (a0_0 != 1) = true := bne_iff_ne.mpr c7
        by_cases c13 : a0_0 = 2
        · rw [if_pos c13] at H
          have c13b0 : (a0_0 == 2) = true := beq_iff_eq.mpr c13
          have c13b1 : (a0_0 != 2) = false := bne_eq_false_iff_eq.mpr c13
          clear c13
          by_cases c14 : x3_1 = true
          · subst c14
            have H1 : (some (a0_3 == 0)) = some r := by rw [if_pos rfl] at H; exact H
            clear H
            have H := H1
            clear H1
            obtain rfl := Option.some.inj H
            have hcz15_0 : wc.cell? ⟨gb147, 0, none⟩ = some (.int .i64 a0_0) := (blk_cell BK147.out 0).trans rfl
            have hcz15_1 : wc.cell? ⟨gb147, 1, none⟩ = some (.int .u32 a0_1) := (blk_cell BK147.out 1).trans rfl
            have hcz15_2 : wc.cell? ⟨gb147, 2, none⟩ = some (.int .u16 a0_2) := (blk_cell BK147.out 2).trans rfl
            have hcz15_3 : wc.cell? ⟨gb147, 3, none⟩ = some (.int .u32 a0_3) := (blk_cell BK147.out 3).trans rfl
            have hfz15_0 := blk_frozen BK147.out 0
            have hfz15_1 := blk_frozen BK147.out 1
            have hfz15_2 := blk_frozen BK147.out 2
            have hfz15_3 := blk_frozen BK147.out 3
            go_wp2
            go_ret
            exact ⟨by first | rfl | (simp [errW_none, errW_some] <;> rfl) | (simp [*, errW_none, errW_some] <;> rfl), by repeat (first | (with_reducible first | exact HB.out | apply below_alloc | apply pw_below_drewN | apply below_drew1 | refine below_set ?_ GE147.out) | exact HB.out)⟩
          · replace c14 := Bool.eq_false_iff.mpr c14
            subst c14
            have H1 : (some false) = some r := by rw [if_neg (show ¬ (false = true) by decide)] at H; exact H
            clear H
            have H := H1
            clear H1
            obtain rfl := Option.some.inj H
            have hcz16_0 : wc.cell? ⟨gb147, 0, none⟩ = some (.int .i64 a0_0) := (blk_cell BK147.out 0).trans rfl
            have hcz16_1 : wc.cell? ⟨gb147, 1, none⟩ = some (.int .u32 a0_1) := (blk_cell BK147.out 1).trans rfl
            have hcz16_2 : wc.cell? ⟨gb147, 2, none⟩ = some (.int .u16 a0_2) := (blk_cell BK147.out 2).trans rfl
            have hcz16_3 : wc.cell? ⟨gb147, 3, none⟩ = some (.int .u32 a0_3) := (blk_cell BK147.out 3).trans rfl
            have hfz16_0 := blk_frozen BK147.out 0
            have hfz16_1 := blk_frozen BK147.out 1
            have hfz16_2 := blk_frozen BK147.out 2
            have hfz16_3 := blk_frozen BK147.out 3
            go_wp2
            go_ret
            exact ⟨by first | rfl | (simp [errW_none, errW_some] <;> rfl) | (simp [*, errW_none, errW_some] <;> rfl), by repeat (first | (with_reducible first | exact HB.out | apply below_alloc | apply pw_below_drewN | apply below_drew1 | refine below_set ?_ GE147.out) | exact HB.out)⟩
        · rw [if_neg c13] at H
          have c13b0 : (a0_0 == 2) = false := beq_eq_false_iff_ne.mpr c13
          have c13b1 : (a0_0 != 2) = true := bne_iff_ne.mpr c13
          by_cases c17 : a0_0 = 3
          · rw [if_pos c17] at H
            have c17b0 : (a0_0 == 3) = true := beq_iff_eq.mpr c17
            have c17b1 : (a0_0 != 3) = false := bne_eq_false_iff_eq.mpr c17
            clear c17
            by_cases c18 : x3_1 = true
            · subst c18
              have H1 : (if a0_2 = 0 then (if a0_3 ≥ 1 then (some (decide (a0_3 ≤ 1073741824))) else (some false)) else (some false)) = some r := by rw [if_pos rfl] at H; exact H
              clear H
              have H := H1
              clear H1
              by_cases c19 : a0_2 = 0
              · rw [if_pos c19] at H
                have c19b0 : (a0_2 == 0) = true := beq_iff_eq.mpr c19
                have c19b1 : (a0_2 != 0) = false := bne_eq_false_iff_eq.mpr c19
                clear c19
                by_cases c20 : a0_3 ≥ 1
                · rw [if_pos c20] at H
                  have c20b0 : decide (1 ≤ a0_3) = true := decide_eq_true c20
                  clear c20
                  obtain rfl := Option.some.inj H
                  have hcz21_0 : wc.cell? ⟨gb147, 0, none⟩ = some (.int .i64 a0_0) := (blk_cell BK147.out 0).trans rfl
                  have hcz21_1 : wc.cell? ⟨gb147, 1, none⟩ = some (.int .u32 a0_1) := (blk_cell BK147.out 1).trans rfl
                  have hcz21_2 : wc.cell? ⟨gb147, 2, none⟩ = some (.int .u16 a0_2) := (blk_cell BK147.out 2).trans rfl
                  have hcz21_3 : wc.cell? ⟨gb147, 3, none⟩ = some (.int .u32 a0_3) := (blk_cell BK147.out 3).trans rfl
                  have hfz21_0 := blk_frozen BK147.out 0
                  have hfz21_1 := blk_frozen BK147.out 1
                  have hfz21_2 := blk_frozen BK147.out 2
                  have hfz21_3 := blk_frozen BK147.out 3
                  go_wp2
                  go_ret
                  exact ⟨by first | rfl | (simp [errW_none, errW_some] <;> rfl) | (simp [*, errW_none, errW_some] <;> rfl), by repeat (first | (with_reducible first | exact HB.out | apply below_alloc | apply pw_below_drewN | apply below_drew1 | refine below_set ?_ GE147.out) | exact HB.out)⟩
                · rw [if_neg c20] at H
                  have c20b0 : decide (1 ≤ a0_3) = false := decide_eq_false c20
                  clear c20
                  obtain rfl := Option.some.inj H
                  have hcz22_0 : wc.cell? ⟨gb147, 0, none⟩ = some (.int .i64 a0_0) := (blk_cell BK147.out 0).trans rfl
                  have hcz22_1 : wc.cell? ⟨gb147, 1, none⟩ = some (.int .u32 a0_1) := (blk_cell BK147.out 1).trans rfl
                  have hcz22_2 : wc.cell? ⟨gb147, 2, none⟩ = some (.int .u16 a0_2) := (blk_cell BK147.out 2).trans rfl
                  have hcz22_3 : wc.cell? ⟨gb147, 3, none⟩ = some (.int .u32 a0_3) := (blk_cell BK147.out 3).trans rfl
                  have hfz22_0 := blk_frozen BK147.out 0
                  have hfz22_1 := blk_frozen BK147.out 1
                  have hfz22_2 := blk_frozen BK147.out 2
                  have hfz22_3 := blk_frozen BK147.out 3
                  go_wp2
                  go_ret
                  exact ⟨by first | rfl | (simp [errW_none, errW_some] <;> rfl) | (simp [*, errW_none, errW_some] <;> rfl), by repeat (first | (with_reducible first | exact HB.out | apply below_alloc | apply pw_below_drewN | apply below_drew1 | refine below_set ?_ GE147.out) | exact HB.out)⟩
              · rw [if_neg c19] at H
                have c19b0 : (a0_2 == 0) = false := beq_eq_false_iff_ne.mpr c19
                have c19b1 : (a0_2 != 0) = true := bne_iff_ne.mpr c19
                obtain rfl := Option.some.inj H
                have hcz23_0 : wc.cell? ⟨gb147, 0, none⟩ = some (.int .i64 a0_0) := (blk_cell BK147.out 0).trans rfl
                have hcz23_1 : wc.cell? ⟨gb147, 1, none⟩ = some (.int .u32 a0_1) := (blk_cell BK147.out 1).trans rfl
                have hcz23_2 : wc.cell? ⟨gb147, 2, none⟩ = some (.int .u16 a0_2) := (blk_cell BK147.out 2).trans rfl
                have hcz23_3 : wc.cell? ⟨gb147, 3, none⟩ = some (.int .u32 a0_3) := (blk_cell BK147.out 3).trans rfl
                have hfz23_0 := blk_frozen BK147.out 0
                have hfz23_1 := blk_frozen BK147.out 1
                have hfz23_2 := blk_frozen BK147.out 2
                have hfz23_3 := blk_frozen BK147.out 3
                go_wp2
                go_ret
                exact ⟨by first | rfl | (simp [errW_none, errW_some] <;> rfl) | (simp [*, errW_none, errW_some] <;> rfl), by repeat (first | (with_reducible first | exact HB.out | apply below_alloc | apply pw_below_drewN | apply below_drew1 | refine below_set ?_ GE147.out) | exact HB.out)⟩
            · replace c18 := Bool.eq_false_iff.mpr c18
              subst c18
              have H1 : (some false) = some r := by rw [if_neg (show ¬ (false = true) by decide)] at H; exact H
              clear H
              have H := H1
              clear H1
              obtain rfl := Option.some.inj H
              have hcz24_0 : wc.cell? ⟨gb147, 0, none⟩ = some (.int .i64 a0_0) := (blk_cell BK147.out 0).trans rfl
              have hcz24_1 : wc.cell? ⟨gb147, 1, none⟩ = some (.int .u32 a0_1) := (blk_cell BK147.out 1).trans rfl
              have hcz24_2 : wc.cell? ⟨gb147, 2, none⟩ = some (.int .u16 a0_2) := (blk_cell BK147.out 2).trans rfl
              have hcz24_3 : wc.cell? ⟨gb147, 3, none⟩ = some (.int .u32 a0_3) := (blk_cell BK147.out 3).trans rfl
              have hfz24_0 := blk_frozen BK147.out 0
              have hfz24_1 := blk_frozen BK147.out 1
              have hfz24_2 := blk_frozen BK147.out 2
              have hfz24_3 := blk_frozen BK147.out 3
              go_wp2
              go_ret
              exact ⟨by first | rfl | (simp [errW_none, errW_some] <;> rfl) | (simp [*, errW_none, errW_some] <;> rfl), by repeat (first | (with_reducible first | exact HB.out | apply below_alloc | apply pw_below_drewN | apply below_drew1 | refine below_set ?_ GE147.out) | exact HB.out)⟩
          · rw [if_neg c17] at H
            have c17b0 : (a0_0 == 3) = false := beq_eq_false_iff_ne.mpr c17
            have c17b1 : (a0_0 != 3) = true := bne_iff_ne.mpr c17
            by_cases c25 : a0_0 = 4
            · rw [if_pos c25] at H
              have c25b0 : (a0_0 == 4) = true := beq_iff_eq.mpr c25
              have c25b1 : (a0_0 != 4) = false := bne_eq_false_iff_eq.mpr c25
              clear c25
              by_cases c26 : a0_1 ≥ 1
              · rw [if_pos c26] at H
                have c26b0 : decide (1 ≤ a0_1) = true := decide_eq_true c26
                clear c26
                by_cases c27 : a0_1 ≤ 1073741824
                · rw [if_pos c27] at H
                  have c27b0 : decide (a0_1 ≤ 1073741824) = true := decide_eq_true c27
                  clear c27
                  by_cases c28 : a0_2 = 0
                  · rw [if_pos c28] at H
                    have c28b0 : (a0_2 == 0) = true := beq_iff_eq.mpr c28
                    have c28b1 : (a0_2 != 0) = false := bne_eq_false_iff_eq.mpr c28
                    clear c28
                    obtain rfl := Option.some.inj H
                    have hcz29_0 : wc.cell? ⟨gb147, 0, none⟩ = some (.int .i64 a0_0) := (blk_cell BK147.out 0).trans rfl
                    have hcz29_1 : wc.cell? ⟨gb147, 1, none⟩ = some (.int .u32 a0_1) := (blk_cell BK147.out 1).trans rfl
                    have hcz29_2 : wc.cell? ⟨gb147, 2, none⟩ = some (.int .u16 a0_2) := (blk_cell BK147.out 2).trans rfl
                    have hcz29_3 : wc.cell? ⟨gb147, 3, none⟩ = some (.int .u32 a0_3) := (blk_cell BK147.out 3).trans rfl
                    have hfz29_0 := blk_frozen BK147.out 0
                    have hfz29_1 := blk_frozen BK147.out 1
                    have hfz29_2 := blk_frozen BK147.out 2
                    have hfz29_3 := blk_frozen BK147.out 3
                    go_wp2
                    go_ret
                    exact ⟨by first | rfl | (simp [errW_none, errW_some] <;> rfl) | (simp [*, errW_none, errW_some] <;> rfl), by repeat (first | (with_reducible first | exact HB.out | apply below_alloc | apply pw_below_drewN | apply below_drew1 | refine below_set ?_ GE147.out) | exact HB.out)⟩
                  · rw [if_neg c28] at H
                    have c28b0 : (a0_2 == 0) = false := beq_eq_false_iff_ne.mpr c28
                    have c28b1 : (a0_2 != 0) = true := bne_iff_ne.mpr c28
                    obtain rfl := Option.some.inj H
                    have hcz30_0 : wc.cell? ⟨gb147, 0, none⟩ = some (.int .i64 a0_0) := (blk_cell BK147.out 0).trans rfl
                    have hcz30_1 : wc.cell? ⟨gb147, 1, none⟩ = some (.int .u32 a0_1) := (blk_cell BK147.out 1).trans rfl
                    have hcz30_2 : wc.cell? ⟨gb147, 2, none⟩ = some (.int .u16 a0_2) := (blk_cell BK147.out 2).trans rfl
                    have hcz30_3 : wc.cell? ⟨gb147, 3, none⟩ = some (.int .u32 a0_3) := (blk_cell BK147.out 3).trans rfl
                    have hfz30_0 := blk_frozen BK147.out 0
                    have hfz30_1 := blk_frozen BK147.out 1
                    have hfz30_2 := blk_frozen BK147.out 2
                    have hfz30_3 := blk_frozen BK147.out 3
                    go_wp2
                    go_ret
                    exact ⟨by first | rfl | (simp [errW_none, errW_some] <;> rfl) | (simp [*, errW_none, errW_some] <;> rfl), by repeat (first | (with_reducible first | exact HB.out | apply below_alloc | apply pw_below_drewN | apply below_drew1 | refine below_set ?_ GE147.out) | exact HB.out)⟩
                · rw [if_neg c27] at H
                  have c27b0 : decide (a0_1 ≤ 1073741824) = false := decide_eq_false c27
                  clear c27
                  obtain rfl := Option.some.inj H
                  have hcz31_0 : wc.cell? ⟨gb147, 0, none⟩ = some (.int .i64 a0_0) := (blk_cell BK147.out 0).trans rfl
                  have hcz31_1 : wc.cell? ⟨gb147, 1, none⟩ = some (.int .u32 a0_1) := (blk_cell BK147.out 1).trans rfl
                  have hcz31_2 : wc.cell? ⟨gb147, 2, none⟩ = some (.int .u16 a0_2) := (blk_cell BK147.out 2).trans rfl
                  have hcz31_3 : wc.cell? ⟨gb147, 3, none⟩ = some (.int .u32 a0_3) := (blk_cell BK147.out 3).trans rfl
                  have hfz31_0 := blk_frozen BK147.out 0
                  have hfz31_1 := blk_frozen BK147.out 1
                  have hfz31_2 := blk_frozen BK147.out 2
                  have hfz31_3 := blk_frozen BK147.out 3
                  go_wp2
                  go_ret
                  exact ⟨by first | rfl | (simp [errW_none, errW_some] <;> rfl) | (simp [*, errW_none, errW_some] <;> rfl), by repeat (first | (with_reducible first | exact HB.out | apply below_alloc | apply pw_below_drewN | apply below_drew1 | refine below_set ?_ GE147.out) | exact HB.out)⟩
              · rw [if_neg c26] at H
                have c26b0 : decide (1 ≤ a0_1) = false := decide_eq_false c26
                clear c26
                obtain rfl := Option.some.inj H
                have hcz32_0 : wc.cell? ⟨gb147, 0, none⟩ = some (.int .i64 a0_0) := (blk_cell BK147.out 0).trans rfl
                have hcz32_1 : wc.cell? ⟨gb147, 1, none⟩ = some (.int .u32 a0_1) := (blk_cell BK147.out 1).trans rfl
                have hcz32_2 : wc.cell? ⟨gb147, 2, none⟩ = some (.int .u16 a0_2) := (blk_cell BK147.out 2).trans rfl
                have hcz32_3 : wc.cell? ⟨gb147, 3, none⟩ = some (.int .u32 a0_3) := (blk_cell BK147.out 3).trans rfl
                have hfz32_0 := blk_frozen BK147.out 0
                have hfz32_1 := blk_frozen BK147.out 1
                have hfz32_2 := blk_frozen BK147.out 2
                have hfz32_3 := blk_frozen BK147.out 3
                go_wp2
                go_ret
                exact ⟨by first | rfl | (simp [errW_none, errW_some] <;> rfl) | (simp [*, errW_none, errW_some] <;> rfl), by repeat (first | (with_reducible first | exact HB.out | apply below_alloc | apply pw_below_drewN | apply below_drew1 | refine below_set ?_ GE147.out) | exact HB.out)⟩
            · rw [if_neg c25] at H
              have c25b0 : (a0_0 == 4) = false := beq_eq_false_iff_ne.mpr c25
              have c25b1 : (a0_0 != 4) = true := bne_iff_ne.mpr c25
              by_cases c33 : a0_0 = 5
              · rw [if_pos c33] at H
                have c33b0 : (a0_0 == 5) = true := beq_iff_eq.mpr c33
                have c33b1 : (a0_0 != 5) = false := bne_eq_false_iff_eq.mpr c33
                clear c33
                by_cases c34 : a0_1 = 1
                · rw [if_pos c34] at H
                  have c34b0 : (a0_1 == 1) = true := beq_iff_eq.mpr c34
                  have c34b1 : (a0_1 != 1) = false := bne_eq_false_iff_eq.mpr c34
                  clear c34
                  by_cases c35 : a0_2 = 0
                  · rw [if_pos c35] at H
                    have c35b0 : (a0_2 == 0) = true := beq_iff_eq.mpr c35
                    have c35b1 : (a0_2 != 0) = false := bne_eq_false_iff_eq.mpr c35
                    clear c35
                    obtain rfl := Option.some.inj H
                    have hcz36_0 : wc.cell? ⟨gb147, 0, none⟩ = some (.int .i64 a0_0) := (blk_cell BK147.out 0).trans rfl
                    have hcz36_1 : wc.cell? ⟨gb147, 1, none⟩ = some (.int .u32 a0_1) := (blk_cell BK147.out 1).trans rfl
                    have hcz36_2 : wc.cell? ⟨gb147, 2, none⟩ = some (.int .u16 a0_2) := (blk_cell BK147.out 2).trans rfl
                    have hcz36_3 : wc.cell? ⟨gb147, 3, none⟩ = some (.int .u32 a0_3) := (blk_cell BK147.out 3).trans rfl
                    have hfz36_0 := blk_frozen BK147.out 0
                    have hfz36_1 := blk_frozen BK147.out 1
                    have hfz36_2 := blk_frozen BK147.out 2
                    have hfz36_3 := blk_frozen BK147.out 3
                    go_wp2
                    go_ret
                    exact ⟨by first | rfl | (simp [errW_none, errW_some] <;> rfl) | (simp [*, errW_none, errW_some] <;> rfl), by repeat (first | (with_reducible first | exact HB.out | apply below_alloc | apply pw_below_drewN | apply below_drew1 | refine below_set ?_ GE147.out) | exact HB.out)⟩
                  · rw [if_neg c35] at H
                    have c35b0 : (a0_2 == 0) = false := beq_eq_false_iff_ne.mpr c35
                    have c35b1 : (a0_2 != 0) = true := bne_iff_ne.mpr c35
                    obtain rfl := Option.some.inj H
                    have hcz37_0 : wc.cell? ⟨gb147, 0, none⟩ = some (.int .i64 a0_0) := (blk_cell BK147.out 0).trans rfl
                    have hcz37_1 : wc.cell? ⟨gb147, 1, none⟩ = some (.int .u32 a0_1) := (blk_cell BK147.out 1).trans rfl
                    have hcz37_2 : wc.cell? ⟨gb147, 2, none⟩ = some (.int .u16 a0_2) := (blk_cell BK147.out 2).trans rfl
                    have hcz37_3 : wc.cell? ⟨gb147, 3, none⟩ = some (.int .u32 a0_3) := (blk_cell BK147.out 3).trans rfl
                    have hfz37_0 := blk_frozen BK147.out 0
                    have hfz37_1 := blk_frozen BK147.out 1
                    have hfz37_2 := blk_frozen BK147.out 2
                    have hfz37_3 := blk_frozen BK147.out 3
                    go_wp2
                    go_ret
                    exact ⟨by first | rfl | (simp [errW_none, errW_some] <;> rfl) | (simp [*, errW_none, errW_some] <;> rfl), by repeat (first | (with_reducible first | exact HB.out | apply below_alloc | apply pw_below_drewN | apply below_drew1 | refine below_set ?_ GE147.out) | exact HB.out)⟩
                · rw [if_neg c34] at H
                  have c34b0 : (a0_1 == 1) = false := beq_eq_false_iff_ne.mpr c34
                  have c34b1 : (a0_1 != 1) = true := bne_iff_ne.mpr c34
                  by_cases c38 : a0_1 = 2
                  · rw [if_pos c38] at H
                    have c38b0 : (a0_1 == 2) = true := beq_iff_eq.mpr c38
                    have c38b1 : (a0_1 != 2) = false := bne_eq_false_iff_eq.mpr c38
                    clear c38
                    by_cases c39 : a0_2 = 0
                    · rw [if_pos c39] at H
                      have c39b0 : (a0_2 == 0) = true := beq_iff_eq.mpr c39
                      have c39b1 : (a0_2 != 0) = false := bne_eq_false_iff_eq.mpr c39
                      clear c39
                      obtain rfl := Option.some.inj H
                      have hcz40_0 : wc.cell? ⟨gb147, 0, none⟩ = some (.int .i64 a0_0) := (blk_cell BK147.out 0).trans rfl
                      have hcz40_1 : wc.cell? ⟨gb147, 1, none⟩ = some (.int .u32 a0_1) := (blk_cell BK147.out 1).trans rfl
                      have hcz40_2 : wc.cell? ⟨gb147, 2, none⟩ = some (.int .u16 a0_2) := (blk_cell BK147.out 2).trans rfl
                      have hcz40_3 : wc.cell? ⟨gb147, 3, none⟩ = some (.int .u32 a0_3) := (blk_cell BK147.out 3).trans rfl
                      have hfz40_0 := blk_frozen BK147.out 0
                      have hfz40_1 := blk_frozen BK147.out 1
                      have hfz40_2 := blk_frozen BK147.out 2
                      have hfz40_3 := blk_frozen BK147.out 3
                      go_wp2
                      go_ret
                      exact ⟨by first | rfl | (simp [errW_none, errW_some] <;> rfl) | (simp [*, errW_none, errW_some] <;> rfl), by repeat (first | (with_reducible first | exact HB.out | apply below_alloc | apply pw_below_drewN | apply below_drew1 | refine below_set ?_ GE147.out) | exact HB.out)⟩
                    · rw [if_neg c39] at H
                      have c39b0 : (a0_2 == 0) = false := beq_eq_false_iff_ne.mpr c39
                      have c39b1 : (a0_2 != 0) = true := bne_iff_ne.mpr c39
                      obtain rfl := Option.some.inj H
                      have hcz41_0 : wc.cell? ⟨gb147, 0, none⟩ = some (.int .i64 a0_0) := (blk_cell BK147.out 0).trans rfl
                      have hcz41_1 : wc.cell? ⟨gb147, 1, none⟩ = some (.int .u32 a0_1) := (blk_cell BK147.out 1).trans rfl
                      have hcz41_2 : wc.cell? ⟨gb147, 2, none⟩ = some (.int .u16 a0_2) := (blk_cell BK147.out 2).trans rfl
                      have hcz41_3 : wc.cell? ⟨gb147, 3, none⟩ = some (.int .u32 a0_3) := (blk_cell BK147.out 3).trans rfl
                      have hfz41_0 := blk_frozen BK147.out 0
                      have hfz41_1 := blk_frozen BK147.out 1
                      have hfz41_2 := blk_frozen BK147.out 2
                      have hfz41_3 := blk_frozen BK147.out 3
                      go_wp2
                      go_ret
                      exact ⟨by first | rfl | (simp [errW_none, errW_some] <;> rfl) | (simp [*, errW_none, errW_some] <;> rfl), by repeat (first | (with_reducible first | exact HB.out | apply below_alloc | apply pw_below_drewN | apply below_drew1 | refine below_set ?_ GE147.out) | exact HB.out)⟩
                  · rw [if_neg c38] at H
                    have c38b0 : (a0_1 == 2) = false := beq_eq_false_iff_ne.mpr c38
                    have c38b1 : (a0_1 != 2) = true := bne_iff_ne.mpr c38
                    obtain rfl := Option.some.inj H
                    have hcz42_0 : wc.cell? ⟨gb147, 0, none⟩ = some (.int .i64 a0_0) := (blk_cell BK147.out 0).trans rfl
                    have hcz42_1 : wc.cell? ⟨gb147, 1, none⟩ = some (.int .u32 a0_1) := (blk_cell BK147.out 1).trans rfl
                    have hcz42_2 : wc.cell? ⟨gb147, 2, none⟩ = some (.int .u16 a0_2) := (blk_cell BK147.out 2).trans rfl
                    have hcz42_3 : wc.cell? ⟨gb147, 3, none⟩ = some (.int .u32 a0_3) := (blk_cell BK147.out 3).trans rfl
                    have hfz42_0 := blk_frozen BK147.out 0
                    have hfz42_1 := blk_frozen BK147.out 1
                    have hfz42_2 := blk_frozen BK147.out 2
                    have hfz42_3 := blk_frozen BK147.out 3
                    go_wp2
                    go_ret
                    exact ⟨by first | rfl | (simp [errW_none, errW_some] <;> rfl) | (simp [*, errW_none, errW_some] <;> rfl), by repeat (first | (with_reducible first | exact HB.out | apply below_alloc | apply pw_below_drewN | apply below_drew1 | refine below_set ?_ GE147.out) | exact HB.out)⟩
              · rw [if_neg c33] at H
                have c33b0 : (a0_0 == 5) = false := beq_eq_false_iff_ne.mpr c33
                have c33b1 : (a0_0 != 5) = true := bne_iff_ne.mpr c33
                by_cases c43 : a0_0 = 6
                · rw [if_pos c43] at H
                  have c43b0 : (a0_0 == 6) = true := beq_iff_eq.mpr c43
                  have c43b1 : (a0_0 != 6) = false := bne_eq_false_iff_eq.mpr c43
                  clear c43
                  by_cases c44 : a0_1 ≤ 1
                  · rw [if_pos c44] at H
                    have c44b0 : decide (a0_1 ≤ 1) = true := decide_eq_true c44
                    clear c44
                    obtain rfl := Option.some.inj H
                    have hcz45_0 : wc.cell? ⟨gb147, 0, none⟩ = some (.int .i64 a0_0) := (blk_cell BK147.out 0).trans rfl
                    have hcz45_1 : wc.cell? ⟨gb147, 1, none⟩ = some (.int .u32 a0_1) := (blk_cell BK147.out 1).trans rfl
                    have hcz45_2 : wc.cell? ⟨gb147, 2, none⟩ = some (.int .u16 a0_2) := (blk_cell BK147.out 2).trans rfl
                    have hcz45_3 : wc.cell? ⟨gb147, 3, none⟩ = some (.int .u32 a0_3) := (blk_cell BK147.out 3).trans rfl
                    have hfz45_0 := blk_frozen BK147.out 0
                    have hfz45_1 := blk_frozen BK147.out 1
                    have hfz45_2 := blk_frozen BK147.out 2
                    have hfz45_3 := blk_frozen BK147.out 3
                    go_wp2
                    go_ret
                    exact ⟨by first | rfl | (simp [errW_none, errW_some] <;> rfl) | (simp [*, errW_none, errW_some] <;> rfl), by repeat (first | (with_reducible first | exact HB.out | apply below_alloc | apply pw_below_drewN | apply below_drew1 | refine below_set ?_ GE147.out) | exact HB.out)⟩
                  · rw [if_neg c44] at H
                    have c44b0 : decide (a0_1 ≤ 1) = false := decide_eq_false c44
                    clear c44
                    obtain rfl := Option.some.inj H
                    have hcz46_0 : wc.cell? ⟨gb147, 0, none⟩ = some (.int .i64 a0_0) := (blk_cell BK147.out 0).trans rfl
                    have hcz46_1 : wc.cell? ⟨gb147, 1, none⟩ = some (.int .u32 a0_1) := (blk_cell BK147.out 1).trans rfl
                    have hcz46_2 : wc.cell? ⟨gb147, 2, none⟩ = some (.int .u16 a0_2) := (blk_cell BK147.out 2).trans rfl
                    have hcz46_3 : wc.cell? ⟨gb147, 3, none⟩ = some (.int .u32 a0_3) := (blk_cell BK147.out 3).trans rfl
                    have hfz46_0 := blk_frozen BK147.out 0
                    have hfz46_1 := blk_frozen BK147.out 1
                    have hfz46_2 := blk_frozen BK147.out 2
                    have hfz46_3 := blk_frozen BK147.out 3
                    go_wp2
                    go_ret
                    exact ⟨by first | rfl | (simp [errW_none, errW_some] <;> rfl) | (simp [*, errW_none, errW_some] <;> rfl), by repeat (first | (with_reducible first | exact HB.out | apply below_alloc | apply pw_below_drewN | apply below_drew1 | refine below_set ?_ GE147.out) | exact HB.out)⟩
                · rw [if_neg c43] at H
                  have c43b0 : (a0_0 == 6) = false := beq_eq_false_iff_ne.mpr c43
                  have c43b1 : (a0_0 != 6) = true := bne_iff_ne.mpr c43
                  obtain rfl := Option.some.inj H
                  have hcz47_0 : wc.cell? ⟨gb147, 0, none⟩ = some (.int .i64 a0_0) := (blk_cell BK147.out 0).trans rfl
                  have hcz47_1 : wc.cell? ⟨gb147, 1, none⟩ = some (.int .u32 a0_1) := (blk_cell BK147.out 1).trans rfl
                  have hcz47_2 : wc.cell? ⟨gb147, 2, none⟩ = some (.int .u16 a0_2) := (blk_cell BK147.out 2).trans rfl
                  have hcz47_3 : wc.cell? ⟨gb147, 3, none⟩ = some (.int .u32 a0_3) := (blk_cell BK147.out 3).trans rfl
                  have hfz47_0 := blk_frozen BK147.out 0
                  have hfz47_1 := blk_frozen BK147.out 1
                  have hfz47_2 := blk_frozen BK147.out 2
                  have hfz47_3 := blk_frozen BK147.out 3
                  go_wp2
                  go_ret
                  exact ⟨by first | rfl | (simp [errW_none, errW_some] <;> rfl) | (simp [*, errW_none, errW_some] <;> rfl), by repeat (first | (with_reducible first | exact HB.out | apply below_alloc | apply pw_below_drewN | apply below_drew1 | refine below_set ?_ GE147.out) | exact HB.out)⟩

end Go.Proofs.Ytfncbcbhhddnpaa.K
