/- Texts laid into one (merge.py): Kx1, Kx3, Kx5, Kx6, Kx7, Help, MTold, MDo, MMul, MDone, MOps, MMove, Kx19, AMeth, ADoes, AOps, PCore, APurses, AAre. -/
import Derived.Test.YtoclldkgkmhgaaaDoorKx0
import Derived.Test.YtoclldkgkmhgaaaDoorMIs
import Derived.Test.YtoclldkgkmhgaaaDoorRng
import Derived.Deep.RegionWith
import Derived.Shelf.Bits.Mul64
import Derived.ScopeJumps
import Derived.WalkMore
import Derived.Deep.DeepCutAuto
import Derived.WalkKit
import Derived.OwnWalkIn
import Derived.TacticsInMore
import Derived.LoopNIn
import Derived.LoopIn
import Derived.Lib.Hide
import Derived.Shelf.Abstract
import Derived.RangeFuncCalls
namespace Go.Proofs.YtoclldkgkmhgaaaDoor.K
open Go.RowKit Go.Proofs.YtoclldkgkmhgaaaDoorW.PrintWords Go.Proofs.YtoclldkgkmhgaaaDoorW.PrintLast Go.Proofs.YtoclldkgkmhgaaaDoorW.PrintMore
attribute [local go_sem] max2_int min2_int max_two min_two max_three min_three max_four min_four   -- for this text's walks alone
set_option linter.unusedVariables false
set_option linter.unusedSimpArgs false

theorem eqA25 (d : Nat) (w : World) (x0 y0 : Int) (x1 y1 : Int) :
    (Op.equalIn (d + 2) 25 (.agg #[.int .u16 x0, .int .i64 x1]) (.agg #[.int .u16 y0, .int .i64 y1])).run Tryd.prog w = .ok (x0 == y0 && (x1 == y1)) w := by
  refine eqA_of Tryd.underlying25 (by kernel_rfl) ?_
  refine eqf_cons (by rfl) (by go_simp; rfl) (by go_simp; rfl) (by go_simp) ?_
  exact eqf_last (by rfl) (by go_simp; rfl) (by go_simp; rfl) (by go_simp)
end Go.Proofs.YtoclldkgkmhgaaaDoor.K

namespace Go.Proofs.YtoclldkgkmhgaaaDoor.K
open Go.RowKit Go.Proofs.YtoclldkgkmhgaaaDoorW.PrintWords Go.Proofs.YtoclldkgkmhgaaaDoorW.PrintLast Go.Proofs.YtoclldkgkmhgaaaDoorW.PrintMore
attribute [local go_sem] max2_int min2_int max_two min_two max_three min_three max_four min_four   -- for this text's walks alone
set_option linter.unusedVariables false
set_option linter.unusedSimpArgs false

theorem eqA38 (d : Nat) (w : World) (x0 y0 : Int) (x1 y1 : Int) :
    (Op.equalIn (d + 2) 38 (.agg #[.int .i64 x0, .int .i64 x1]) (.agg #[.int .i64 y0, .int .i64 y1])).run Tryd.prog w = .ok (x0 == y0 && (x1 == y1)) w := by
  refine eqA_of Tryd.underlying38 (by kernel_rfl) ?_
  refine eqf_cons (by rfl) (by go_simp; rfl) (by go_simp; rfl) (by go_simp) ?_
  exact eqf_last (by rfl) (by go_simp; rfl) (by go_simp; rfl) (by go_simp)
end Go.Proofs.YtoclldkgkmhgaaaDoor.K

namespace Go.Proofs.YtoclldkgkmhgaaaDoor.K
open Go.RowKit Go.Proofs.YtoclldkgkmhgaaaDoorW.PrintWords Go.Proofs.YtoclldkgkmhgaaaDoorW.PrintLast Go.Proofs.YtoclldkgkmhgaaaDoorW.PrintMore
attribute [local go_sem] max2_int min2_int max_two min_two max_three min_three max_four min_four   -- for this text's walks alone
set_option linter.unusedVariables false
set_option linter.unusedSimpArgs false

/-! ### money_Right: function 47 -/
def money_Right.f (a0 : Int) : Option (Bool) := if a0 ≥ 0 then (some (decide (a0 ≤ 1152921504606846976))) else (some false)
set_option maxHeartbeats 8000000 in
set_option maxRecDepth 100000 in
theorem money_Right.calls (a0 : Int) (r : Bool) (w : World) (hL : Laid w) (h : money_Right.f a0 = some r) :
    Calls Tryd.prog 47 #[.int .i64 a0] w fun e w' => e = .returned (.bool r) ∧ Below w.heap.size w w' := by
  have HLD := Aside0.mk hL
  clear hL
  have HB := Aside0.mk (Below.refl w.heap.size w)
  have H : (if a0 ≥ 0 then (some (decide (a0 ≤ 1152921504606846976))) else (some false)) = some r := h
  clear h
  by_cases c2 : a0 ≥ 0
  · rw [if_pos c2] at H
    have c2b0 : decide (0 ≤ a0) = true := decide_eq_true c2
    clear c2
    obtain rfl := Option.some.inj H
    go_enter Tryd.func47, Tryd.ntmps47
    go_wp2
    go_ret
    exact ⟨by first | rfl | (simp [errW_none, errW_some] <;> rfl) | (simp [*, errW_none, errW_some] <;> rfl), by repeat (first | (with_reducible first | exact HB.out | apply below_alloc | apply pw_below_drewN | apply below_drew1) | exact HB.out)⟩
  · rw [if_neg c2] at H
    have c2b0 : decide (0 ≤ a0) = false := decide_eq_false c2
    clear c2
    obtain rfl := Option.some.inj H
    go_enter Tryd.func47, Tryd.ntmps47
    go_wp2
    go_ret
    exact ⟨by first | rfl | (simp [errW_none, errW_some] <;> rfl) | (simp [*, errW_none, errW_some] <;> rfl), by repeat (first | (with_reducible first | exact HB.out | apply below_alloc | apply pw_below_drewN | apply below_drew1) | exact HB.out)⟩

end Go.Proofs.YtoclldkgkmhgaaaDoor.K

namespace Go.Proofs.YtoclldkgkmhgaaaDoor.K
open Go.RowKit Go.Proofs.YtoclldkgkmhgaaaDoorW.PrintWords Go.Proofs.YtoclldkgkmhgaaaDoorW.PrintLast Go.Proofs.YtoclldkgkmhgaaaDoorW.PrintMore
attribute [local go_sem] max2_int min2_int max_two min_two max_three min_three max_four min_four   -- for this text's walks alone
set_option linter.unusedVariables false
set_option linter.unusedSimpArgs false

/-! ### money_are: function 97 -/
def money_are.l0 : Nat → List Int → Int → Int → Option (Bool)
  | 0, _, _, _ => none
  | k + 1, x5, x6, x7 => if x7 < x6 then (if 0 ≤ x7 then (if x7 < (x5.length : Int) then ((money_Right.f (rd x5 x7)).bind fun t102 => (if t102 = true then (money_are.l0 k x5 x6 (wrap64 (x7 + 1))) else (some false))) else (none)) else (none)) else (some true)
def money_are.f (k : Nat) (l0 : List Int) : Option (Bool) := money_are.l0 k l0 (l0.length : Int) 0
set_option maxHeartbeats 8000000 in
set_option maxRecDepth 100000 in
theorem money_are.calls (k : Nat) (A0 : Option Addr) (c0 : Nat) (l0 : List Int) (r : Bool) (w : World) (hL : Laid w) (hr0 : Kd.C (Kd.int .i64) w A0 l0.length l0) (hc0 : l0.length ≤ c0) (h : money_are.f k l0 = some r) :
    Calls Tryd.prog 97 #[.slice A0 l0.length c0] w fun e w' => e = .returned (.bool r) ∧ Below w.heap.size w w' := by
  have HLD := Aside0.mk hL
  clear hL
  have HR0 := Aside0.mk hr0
  have HC0 := Aside0.mk hc0
  clear hr0 hc0
  have HB := Aside0.mk (Below.refl w.heap.size w)
  have H : (money_are.l0 k l0 (l0.length : Int) 0) = some r := h
  clear h
  have H' := Aside0.mk H
  clear H
  go_enter Tryd.func97, Tryd.ntmps97
  go_wp2
  go_loopg [7] k (fun kq v7 w' => ∃ (x7_1 : Int), v7 = .int .i64 x7_1 ∧ Aside0 (money_are.l0 kq l0 (l0.length : Int) x7_1 = some r) ∧ Aside0 (kq ≤ k) ∧ Aside0 (Below w.heap.size w w'))
  case atStart => exact ⟨(0), (by first | rfl | (simp; done) | (simp [*]; done)), H', ⟨Nat.le_refl _⟩, ⟨by repeat (first | (with_reducible first | exact HB.out | apply below_alloc | apply pw_below_drewN | apply below_drew1) | exact HB.out)⟩⟩
  case round =>
    clear H'
    obtain ⟨x7_1, rfl, HA, HK1, HB⟩ := hrel
    cases gk with
    | zero => exact absurd HA.out (by simp [money_are.l0])
    | succ k1 =>
      have H := HA.out
      clear HA
      simp only [money_are.l0] at H
      by_cases c2 : x7_1 < (l0.length : Int)
      · rw [if_pos c2] at H
        have c2b0 : decide (x7_1 < (l0.length : Int)) = true := decide_eq_true c2
        clear c2
        by_cases c3 : 0 ≤ x7_1
        · rw [if_pos c3] at H
          have c3b0 : decide (0 ≤ x7_1) = true := decide_eq_true c3
          clear c3
          by_cases c4 : x7_1 < (l0.length : Int)
          · rw [if_pos c4] at H
            have c4b0 : decide (x7_1 < (l0.length : Int)) = true := decide_eq_true c4
            clear c4
            replace H := Option.bind_eq_some_iff.mp H
            obtain ⟨t102, A50, H⟩ := H
            replace H : (if t102 = true then (money_are.l0 k1 l0 (l0.length : Int) (wrap64 (x7_1 + 1))) else (some false)) = some r := H
            have A5 := Aside0.mk A50
            clear A50
            by_cases c6 : t102 = true
            · subst c6
              have H1 : (money_are.l0 k1 l0 (l0.length : Int) (wrap64 (x7_1 + 1))) = some r := by rw [if_pos rfl] at H; exact H
              clear H
              have H := H1
              clear H1
              have H' := Aside0.mk H
              clear H
              have p101 : 0 ≤ (x7_1 : Int) := of_decide_eq_true (by first | (with_reducible assumption) | assumption)
              have q101 : x7_1 < (l0.length : Int) := of_decide_eq_true (by first | (with_reducible assumption) | assumption)
              obtain ⟨ad101, e101, hx101_0⟩ := Kd.at_int HR0.out x7_1 p101 q101
              cases e101
              replace hx101_0 := (HB.out.cell (World.block_lt_of_cell? w _ hx101_0)).trans hx101_0
              replace p101 := eq_true p101
              replace q101 := eq_true q101
              go_wp2_with (first | ((with_reducible refine gate_callee (f := 47) rfl ?_); refine goesL_ (some 12) rfl rfl Tryd.func47 (by kernel_rfl) rfl #[.int .i64 (rd l0 x7_1)] rfl (by (try simp only [List.map_toArray, List.map_cons, List.map_nil]); first | done | rfl | (simp only [List.length_drop, List.length_take]; rfl)) ?_; (with_reducible refine (money_Right.calls (rd l0 x7_1) true _ ?side1 A5.out).mono ?_); (case side1 => exact Laid_below HLD.out (by repeat (first | (with_reducible first | exact HB.out | apply below_alloc | apply pw_below_drewN | apply below_drew1) | exact HB.out))); rintro e w7 ⟨rfl, hb⟩; refine ⟨_, rfl, ?_⟩; have n0_ := Aside0.mk (below_step (by repeat (first | (with_reducible first | exact HB.out | apply below_alloc | apply pw_below_drewN | apply below_drew1) | exact HB.out)) hb); clear HB; have HB := n0_; clear n0_; (try clear hb); (try clear hb2); (try clear hk); (try clear hi)))
              go_roundg k1
              case measure => have := HK1.out; omega
              case rel => exact ⟨(wrap64 (x7_1 + 1)), (by first | rfl | (simp; done) | (simp [*]; done)), H', ⟨by have := HK1.out; omega⟩, ⟨by repeat (first | (with_reducible first | exact HB.out | apply below_alloc | apply pw_below_drewN | apply below_drew1) | exact HB.out)⟩⟩
            · replace c6 := Bool.eq_false_iff.mpr c6
              subst c6
              have H1 : (some false) = some r := by rw [if_neg (show ¬ (false = true) by decide)] at H; exact H
              clear H
              have H := H1
              clear H1
              obtain rfl := Option.some.inj H
              have p101 : 0 ≤ (x7_1 : Int) := of_decide_eq_true (by first | (with_reducible assumption) | assumption)
              have q101 : x7_1 < (l0.length : Int) := of_decide_eq_true (by first | (with_reducible assumption) | assumption)
              obtain ⟨ad101, e101, hx101_0⟩ := Kd.at_int HR0.out x7_1 p101 q101
              cases e101
              replace hx101_0 := (HB.out.cell (World.block_lt_of_cell? w _ hx101_0)).trans hx101_0
              replace p101 := eq_true p101
              replace q101 := eq_true q101
              go_wp2_with (first | ((with_reducible refine gate_callee (f := 47) rfl ?_); refine goesL_ (some 12) rfl rfl Tryd.func47 (by kernel_rfl) rfl #[.int .i64 (rd l0 x7_1)] rfl (by (try simp only [List.map_toArray, List.map_cons, List.map_nil]); first | done | rfl | (simp only [List.length_drop, List.length_take]; rfl)) ?_; (with_reducible refine (money_Right.calls (rd l0 x7_1) false _ ?side1 A5.out).mono ?_); (case side1 => exact Laid_below HLD.out (by repeat (first | (with_reducible first | exact HB.out | apply below_alloc | apply pw_below_drewN | apply below_drew1) | exact HB.out))); rintro e w8 ⟨rfl, hb⟩; refine ⟨_, rfl, ?_⟩; have n0_ := Aside0.mk (below_step (by repeat (first | (with_reducible first | exact HB.out | apply below_alloc | apply pw_below_drewN | apply below_drew1) | exact HB.out)) hb); clear HB; have HB := n0_; clear n0_; (try clear hb); (try clear hb2); (try clear hk); (try clear hi)))
              go_ret
              exact ⟨by first | rfl | (simp [errW_none, errW_some] <;> rfl) | (simp [*, errW_none, errW_some] <;> rfl), by repeat (first | (with_reducible first | exact HB.out | apply below_alloc | apply pw_below_drewN | apply below_drew1) | exact HB.out)⟩
          · rw [if_neg c4] at H
            exact absurd H (by simp)
        · rw [if_neg c3] at H
          exact absurd H (by simp)
      · rw [if_neg c2] at H
        have c2b0 : decide (x7_1 < (l0.length : Int)) = false := decide_eq_false c2
        clear c2
        obtain rfl := Option.some.inj H
        go_wp2
        go_ret
        exact ⟨by first | rfl | (simp [errW_none, errW_some] <;> rfl) | (simp [*, errW_none, errW_some] <;> rfl), by repeat (first | (with_reducible first | exact HB.out | apply below_alloc | apply pw_below_drewN | apply below_drew1) | exact HB.out)⟩

end Go.Proofs.YtoclldkgkmhgaaaDoor.K

namespace Go.Proofs.YtoclldkgkmhgaaaDoor.K
open Go.RowKit Go.Proofs.YtoclldkgkmhgaaaDoorW.PrintWords Go.Proofs.YtoclldkgkmhgaaaDoorW.PrintLast Go.Proofs.YtoclldkgkmhgaaaDoorW.PrintMore
attribute [local go_sem] max2_int min2_int max_two min_two max_three min_three max_four min_four   -- for this text's walks alone
set_option linter.unusedVariables false
set_option linter.unusedSimpArgs false

/-! ### goods_are: function 74 -/
def goods_are.l0 : Nat → List Int → Int → Int → Option (Bool)
  | 0, _, _, _ => none
  | k + 1, x5, x6, x7 => if x7 < x6 then (if 0 ≤ x7 then (if x7 < (x5.length : Int) then (if (rd x5 x7) = 0 then (some false) else ((money_Right.f (rd x5 x7)).bind fun t104 => (if t104 = true then (goods_are.l0 k x5 x6 (wrap64 (x7 + 1))) else (some false)))) else (none)) else (none)) else (some true)
def goods_are.f (k : Nat) (l0 : List Int) : Option (Bool) := goods_are.l0 k l0 (l0.length : Int) 0
set_option maxHeartbeats 8000000 in
set_option maxRecDepth 100000 in
theorem goods_are.calls (k : Nat) (A0 : Option Addr) (c0 : Nat) (l0 : List Int) (r : Bool) (w : World) (hL : Laid w) (hr0 : Kd.C (Kd.int .i64) w A0 l0.length l0) (hc0 : l0.length ≤ c0) (h : goods_are.f k l0 = some r) :
    Calls Tryd.prog 74 #[.slice A0 l0.length c0] w fun e w' => e = .returned (.bool r) ∧ Below w.heap.size w w' := by
  have HLD := Aside0.mk hL
  clear hL
  have HR0 := Aside0.mk hr0
  have HC0 := Aside0.mk hc0
  clear hr0 hc0
  have HB := Aside0.mk (Below.refl w.heap.size w)
  have H : (goods_are.l0 k l0 (l0.length : Int) 0) = some r := h
  clear h
  have H' := Aside0.mk H
  clear H
  go_enter Tryd.func74, Tryd.ntmps74
  go_wp2
  go_loopg [7] k (fun kq v7 w' => ∃ (x7_1 : Int), v7 = .int .i64 x7_1 ∧ Aside0 (goods_are.l0 kq l0 (l0.length : Int) x7_1 = some r) ∧ Aside0 (kq ≤ k) ∧ Aside0 (Below w.heap.size w w'))
  case atStart => exact ⟨(0), (by first | rfl | (simp; done) | (simp [*]; done)), H', ⟨Nat.le_refl _⟩, ⟨by repeat (first | (with_reducible first | exact HB.out | apply below_alloc | apply pw_below_drewN | apply below_drew1) | exact HB.out)⟩⟩
  case round =>
    clear H'
    obtain ⟨x7_1, rfl, HA, HK1, HB⟩ := hrel
    cases gk with
    | zero => exact absurd HA.out (by simp [goods_are.l0])
    | succ k1 =>
      have H := HA.out
      clear HA
      simp only [goods_are.l0] at H
      by_cases c2 : x7_1 < (l0.length : Int)
      · rw [if_pos c2] at H
        have c2b0 : decide (x7_1 < (l0.length : Int)) = true := decide_eq_true c2
        clear c2
        by_cases c3 : 0 ≤ x7_1
        · rw [if_pos c3] at H
          have c3b0 : decide (0 ≤ x7_1) = true := decide_eq_true c3
          clear c3
          by_cases c4 : x7_1 < (l0.length : Int)
          · rw [if_pos c4] at H
            have c4b0 : decide (x7_1 < (l0.length : Int)) = true := decide_eq_true c4
            clear c4
            by_cases c5 : (rd l0 x7_1) = 0
            · rw [if_pos c5] at H
              have c5b0 : ((rd l0 x7_1) == 0) = true := beq_iff_eq.mpr c5
              have c5b1 : ((rd l0 x7_1) != 0) = false := bne_eq_false_iff_eq.mpr c5
              clear c5
              obtain rfl := Option.some.inj H
              have p103 : 0 ≤ (x7_1 : Int) := of_decide_eq_true (by first | (with_reducible assumption) | assumption)
              have q103 : x7_1 < (l0.length : Int) := of_decide_eq_true (by first | (with_reducible assumption) | assumption)
              obtain ⟨ad103, e103, hx103_0⟩ := Kd.at_int HR0.out x7_1 p103 q103
              cases e103
              replace hx103_0 := (HB.out.cell (World.block_lt_of_cell? w _ hx103_0)).trans hx103_0
              replace p103 := eq_true p103
              replace q103 := eq_true q103
              go_wp2
              go_ret
              exact ⟨by first | rfl | (simp [errW_none, errW_some] <;> rfl) | (simp [*, errW_none, errW_some] <;> rfl), by repeat (first | (with_reducible first | exact HB.out | apply below_alloc | apply pw_below_drewN | apply below_drew1) | exact HB.out)⟩
            · rw [if_neg c5] at H
              have c5b0 : ((rd l0 x7_1) == 0) = false := beq_eq_false_iff_ne.mpr c5
              have c5b1 : ((rd l0 x7_1) != 0) = true := bne_iff_ne.mpr c5
              replace H := Option.bind_eq_some_iff.mp H
              obtain ⟨t104, A60, H⟩ := H
              replace H : (if t104 = true then (goods_are.l0 k1 l0 (l0.length : Int) (wrap64 (x7_1 + 1))) else (some false)) = some r := H
              have A6 := Aside0.mk A60
              clear A60
              by_cases c7 : t104 = true
              · subst c7
                have H1 : (goods_are.l0 k1 l0 (l0.length : Int) (wrap64 (x7_1 + 1))) = some r := by rw [if_pos rfl] at H; exact H
                clear H
                have H := H1
                clear H1
                have H' := Aside0.mk H
                clear H
                have p103 : 0 ≤ (x7_1 : Int) := of_decide_eq_true (by first | (with_reducible assumption) | assumption)
                have q103 : x7_1 < (l0.length : Int) := of_decide_eq_true (by first | (with_reducible assumption) | assumption)
                obtain ⟨ad103, e103, hx103_0⟩ := Kd.at_int HR0.out x7_1 p103 q103
                cases e103
                replace hx103_0 := (HB.out.cell (World.block_lt_of_cell? w _ hx103_0)).trans hx103_0
                replace p103 := eq_true p103
                replace q103 := eq_true q103
                go_wp2_with (first | (go_at_call 47; (with_reducible refine (money_Right.calls (rd l0 x7_1) true _ ?side1 A6.out).mono ?_); (case side1 => exact Laid_below HLD.out (by repeat (first | (with_reducible first | exact HB.out | apply below_alloc | apply pw_below_drewN | apply below_drew1) | exact HB.out))); rintro e w8 ⟨rfl, hb⟩; have n0_ := Aside0.mk (below_step (by repeat (first | (with_reducible first | exact HB.out | apply below_alloc | apply pw_below_drewN | apply below_drew1) | exact HB.out)) hb); clear HB; have HB := n0_; clear n0_; (try clear hb); (try clear hb2); (try clear hk); (try clear hi)))
                go_roundg k1
                case measure => have := HK1.out; omega
                case rel => exact ⟨(wrap64 (x7_1 + 1)), (by first | rfl | (simp; done) | (simp [*]; done)), H', ⟨by have := HK1.out; omega⟩, ⟨by repeat (first | (with_reducible first | exact HB.out | apply below_alloc | apply pw_below_drewN | apply below_drew1) | exact HB.out)⟩⟩
              · replace c7 := Bool.eq_false_iff.mpr c7
                subst c7
                have H1 : (some false) = some r := by rw [if_neg (show ¬ (false = true) by decide)] at H; exact H
                clear H
                have H := H1
                clear H1
                obtain rfl := Option.some.inj H
                have p103 : 0 ≤ (x7_1 : Int) := of_decide_eq_true (by first | (with_reducible assumption) | assumption)
                have q103 : x7_1 < (l0.length : Int) := of_decide_eq_true (by first | (with_reducible assumption) | assumption)
                obtain ⟨ad103, e103, hx103_0⟩ := Kd.at_int HR0.out x7_1 p103 q103
                cases e103
                replace hx103_0 := (HB.out.cell (World.block_lt_of_cell? w _ hx103_0)).trans hx103_0
                replace p103 := eq_true p103
                replace q103 := eq_true q103
                go_wp2_with (first | (go_at_call 47; (with_reducible refine (money_Right.calls (rd l0 x7_1) false _ ?side1 A6.out).mono ?_); (case side1 => exact Laid_below HLD.out (by repeat (first | (with_reducible first | exact HB.out | apply below_alloc | apply pw_below_drewN | apply below_drew1) | exact HB.out))); rintro e w9 ⟨rfl, hb⟩; have n0_ := Aside0.mk (below_step (by repeat (first | (with_reducible first | exact HB.out | apply below_alloc | apply pw_below_drewN | apply below_drew1) | exact HB.out)) hb); clear HB; have HB := n0_; clear n0_; (try clear hb); (try clear hb2); (try clear hk); (try clear hi)))
                go_ret
                exact ⟨by first | rfl | (simp [errW_none, errW_some] <;> rfl) | (simp [*, errW_none, errW_some] <;> rfl), by repeat (first | (with_reducible first | exact HB.out | apply below_alloc | apply pw_below_drewN | apply below_drew1) | exact HB.out)⟩
          · rw [if_neg c4] at H
            exact absurd H (by simp)
        · rw [if_neg c3] at H
          exact absurd H (by simp)
      · rw [if_neg c2] at H
        have c2b0 : decide (x7_1 < (l0.length : Int)) = false := decide_eq_false c2
        clear c2
        obtain rfl := Option.some.inj H
        go_wp2
        go_ret
        exact ⟨by first | rfl | (simp [errW_none, errW_some] <;> rfl) | (simp [*, errW_none, errW_some] <;> rfl), by repeat (first | (with_reducible first | exact HB.out | apply below_alloc | apply pw_below_drewN | apply below_drew1) | exact HB.out)⟩

end Go.Proofs.YtoclldkgkmhgaaaDoor.K

namespace Go.Proofs.YtoclldkgkmhgaaaDoor.K
open Go.RowKit Go.Proofs.YtoclldkgkmhgaaaDoorW.PrintWords Go.Proofs.YtoclldkgkmhgaaaDoorW.PrintLast Go.Proofs.YtoclldkgkmhgaaaDoorW.PrintMore
set_option linter.unusedVariables false

theorem flat_at {α : Type} (enc : α → List Value) (sz : Nat) (hsz : ∀ x, (enc x).length = sz) : ∀ (xs : List α) (j : Nat) (x : α) (i : Nat) (u : Value), xs[j]? = some x → (enc x)[i]? = some u → (xs.flatMap enc)[j * sz + i]? = some u
  | [], j, x, i, u, h, _ => by simp at h
  | y :: ys, 0, x, i, u, h, hu => by
    simp at h
    subst h
    have hi : i < (enc y).length := (List.getElem?_eq_some_iff.1 hu).1
    simp only [List.flatMap_cons, Nat.zero_mul, Nat.zero_add]
    rw [List.getElem?_append_left hi]
    exact hu
  | y :: ys, j + 1, x, i, u, h, hu => by
    simp only [List.getElem?_cons_succ] at h
    have := flat_at enc sz hsz ys j x i u h hu
    have e : (j + 1) * sz + i = (enc y).length + (j * sz + i) := by rw [hsz, Nat.add_mul]; omega
    simp only [List.flatMap_cons]
    rw [e, List.getElem?_append_right (by omega)]
    simpa using this

theorem C_of_block {α : Type} (d : Kd α) (enc : α → List Value) {W : World} {g : Nat} {cells : Array Value} {t : TypeId} (hb : W.heap[g]? = some (.cells cells t (0, 0))) (xs : List α)
    (hsz : ∀ x, (enc x).length = d.sz) (hK : ∀ x, d.K W x (enc x)) (hcs : cells.toList = xs.flatMap enc) (hn : xs.length ≤ 9223372036854775807) : d.C W (some ⟨g, 0, none⟩) xs.length xs := by
  refine ⟨rfl, hn, fun _ => ⟨_, rfl, fun j x hj => ⟨enc x, hsz x, hK x, fun i u hu => ?_⟩⟩⟩
  have := flat_at enc d.sz hsz xs j x i u hj hu
  rw [← hcs] at this
  have h2 : cells[j * d.sz + i]? = some u := by simpa using this
  rw [show (⟨g, 0, none⟩ : Addr).add (j * d.sz + i) = ⟨g, j * d.sz + i, none⟩ from by unfold Addr.add; split <;> simp_all]
  exact (blk_cell hb _).trans h2

theorem alloc2_new (w : World) (X Y : Obj) : ((w.alloc X).alloc Y).heap[w.heap.size + 1]? = some Y := by simpa using (MapKept.heap_alloc (w.alloc X) Y).1
theorem alloc2_fst (w : World) (X Y : Obj) : ((w.alloc X).alloc Y).heap[w.heap.size]? = some X := ((MapKept.heap_alloc (w.alloc X) Y).2 _ (by simp)).trans (MapKept.heap_alloc w X).1
theorem alloc_old {w : World} {g : Nat} {o : Obj} (X : Obj) (h : w.heap[g]? = some o) : (w.alloc X).heap[g]? = some o := ((MapKept.heap_alloc w X).2 _ (Array.getElem?_eq_some_iff.1 h).1).trans h

end Go.Proofs.YtoclldkgkmhgaaaDoor.K

namespace Go.Proofs.YtoclldkgkmhgaaaDoor.K
open Go.RowKit Go.Proofs.YtoclldkgkmhgaaaDoorW.PrintWords Go.Proofs.YtoclldkgkmhgaaaDoorW.PrintLast Go.Proofs.YtoclldkgkmhgaaaDoorW.PrintMore
set_option linter.unusedVariables false
set_option linter.unusedSimpArgs false

set_option maxHeartbeats 2000000 in
theorem told_calls (a : Addr) (w : World) (c : Int) (hL : Laid w)
    (h : (c = 110 ∧ w.cell? ⟨2, 0, none⟩ = some (.iface 148 (.pointer (some a)))) ∨ (c = 111 ∧ w.cell? ⟨1, 0, none⟩ = some (.iface 148 (.pointer (some a)))) ∨ (c = 112 ∧ w.cell? ⟨0, 0, none⟩ = some (.iface 148 (.pointer (some a))))) :
    Calls Tryd.prog 98 #[.iface 148 (.pointer (some a))] w fun e w' => e = .returned (.int .i64 c) ∧ w' = w := by
  obtain ⟨a0, a1, a2, c0, c1, c2, t0, t1, t2, g0, g1, g2, n01, n02, n12, h0, h1, h2⟩ := hL
  have n10 : a1 ≠ a0 := fun e => n01 e.symm
  have n20 : a2 ≠ a0 := fun e => n02 e.symm
  have n21 : a2 ≠ a1 := fun e => n12 e.symm
  rcases h with ⟨rfl, h⟩ | ⟨rfl, h⟩ | ⟨rfl, h⟩
  · rw [g0] at h
    obtain rfl : a0 = a := by simpa using h
    clear h
    go_enter Tryd.func98, Tryd.ntmps98
    go_wp2_with (go_at_call 103; refine (is_same _ _).mono ?_; rintro e w1 ⟨rfl, rfl⟩)
    go_ret
    exact ⟨rfl, rfl⟩
  · rw [g1] at h
    obtain rfl : a1 = a := by simpa using h
    clear h
    go_enter Tryd.func98, Tryd.ntmps98
    go_wp2_with (go_at_call 103; first | (with_reducible refine (is_other a1 a0 _ _ _ _ _ n10 h1 h0).mono ?_; rintro e w1 ⟨rfl, rfl⟩) | (with_reducible refine (is_same _ _).mono ?_; rintro e w1 ⟨rfl, rfl⟩))
    go_ret
    exact ⟨rfl, rfl⟩
  · rw [g2] at h
    obtain rfl : a2 = a := by simpa using h
    clear h
    go_enter Tryd.func98, Tryd.ntmps98
    go_wp2_with (go_at_call 103; first | (with_reducible refine (is_other a2 a0 _ _ _ _ _ n20 h2 h0).mono ?_; rintro e w1 ⟨rfl, rfl⟩) | (with_reducible refine (is_other a2 a1 _ _ _ _ _ n21 h2 h1).mono ?_; rintro e w1 ⟨rfl, rfl⟩) | (with_reducible refine (is_same _ _).mono ?_; rintro e w1 ⟨rfl, rfl⟩))
    go_ret
    exact ⟨rfl, rfl⟩
end Go.Proofs.YtoclldkgkmhgaaaDoor.K

namespace Go.Proofs.YtoclldkgkmhgaaaDoor.K
open Go.RowKit Go.Proofs.YtoclldkgkmhgaaaDoorW.PrintWords Go.Proofs.YtoclldkgkmhgaaaDoorW.PrintLast Go.Proofs.YtoclldkgkmhgaaaDoorW.PrintMore
set_option linter.unusedVariables false
set_option linter.unusedSimpArgs false

theorem right_true {n : Int} (h : 0 ≤ n ∧ n ≤ 1152921504606846976) : money_Right.f n = some true := by
  unfold money_Right.f
  rw [if_pos (by omega)]
  simp [h.2]
theorem right_false {n : Int} (h : ¬ (0 ≤ n ∧ n ≤ 1152921504606846976)) : money_Right.f n = some false := by
  unfold money_Right.f
  by_cases h0 : n ≥ 0
  · rw [if_pos h0]
    have : ¬ n ≤ 1152921504606846976 := fun h1 => h ⟨h0, h1⟩
    simp [this]
  · rw [if_neg h0]

set_option maxHeartbeats 2000000 in
theorem add1_ok (ga gb : Nat) (a b : Int) (w : World) (hL : Laid w) (h1 : w.cell? ⟨ga, 0, none⟩ = some (.int .i64 a)) (h2 : w.cell? ⟨gb, 0, none⟩ = some (.int .i64 b)) (h : money_Right.f (wrap64 (a + b)) = some true) :
    Calls Tryd.prog 94 #[.pointer (some ⟨ga, 0, none⟩), .pointer (some ⟨gb, 0, none⟩)] w fun e w' => e = .returned (.tuple #[.int .i64 (wrap64 (a + b)), .nilIface]) ∧ Below w.heap.size w w' := by
  have HL := Aside0.mk hL
  have HR := Aside0.mk h
  clear hL h
  have k1 : ∀ w', Below w.heap.size w w' → w'.cell? ⟨ga, 0, none⟩ = some (.int .i64 a) := fun w' hb => (hb.cell (cell_lt h1)).trans h1
  have k2 : ∀ w', Below w.heap.size w w' → w'.cell? ⟨gb, 0, none⟩ = some (.int .i64 b) := fun w' hb => (hb.cell (cell_lt h2)).trans h2
  have K1 := Aside0.mk k1
  have K2 := Aside0.mk k2
  clear k1 k2
  go_enter Tryd.func94, Tryd.ntmps94
  go_wp2_with (go_at_call 47; with_reducible refine (money_Right.calls _ true _ (Laid_below HL.out (Below.refl _ _)) HR.out).mono ?_; rintro e w1 ⟨rfl, hb⟩; have q1 := K1.out _ hb; have q2 := K2.out _ hb)
  go_ret2
  exact ⟨rfl, hb⟩

set_option maxHeartbeats 2000000 in
theorem add1_err (ga gb : Nat) (a b : Int) (x : Addr) (w : World) (hL : Laid w) (hx : w.cell? ⟨1, 0, none⟩ = some (.iface 148 (.pointer (some x)))) (h1 : w.cell? ⟨ga, 0, none⟩ = some (.int .i64 a)) (h2 : w.cell? ⟨gb, 0, none⟩ = some (.int .i64 b)) (h : money_Right.f (wrap64 (a + b)) = some false) :
    Calls Tryd.prog 94 #[.pointer (some ⟨ga, 0, none⟩), .pointer (some ⟨gb, 0, none⟩)] w fun e w' => e = .returned (.tuple #[.int .i64 0, .iface 148 (.pointer (some x))]) ∧ Below w.heap.size w w' := by
  have HL := Aside0.mk hL
  have HR := Aside0.mk h
  clear hL h
  have k1 : ∀ w', Below w.heap.size w w' → w'.cell? ⟨1, 0, none⟩ = some (.iface 148 (.pointer (some x))) := fun w' hb => (hb.cell (cell_lt hx)).trans hx
  have K1 := Aside0.mk k1
  clear k1
  go_enter Tryd.func94, Tryd.ntmps94
  go_wp2_with (go_at_call 47; with_reducible refine (money_Right.calls _ false _ (Laid_below HL.out (Below.refl _ _)) HR.out).mono ?_; rintro e w1 ⟨rfl, hb⟩; have q1 := K1.out _ hb)
  all_goals go_region_with fail
  all_goals (try go_wp2)
  all_goals go_ret2
  all_goals exact ⟨rfl, by first | exact hb | exact below_drew1 hb⟩

set_option maxHeartbeats 2000000 in
theorem sub1_ok (ga gb : Nat) (a b : Int) (w : World) (hL : Laid w) (h1 : w.cell? ⟨ga, 0, none⟩ = some (.int .i64 a)) (h2 : w.cell? ⟨gb, 0, none⟩ = some (.int .i64 b)) (h : ¬ a < b) :
    Calls Tryd.prog 90 #[.pointer (some ⟨ga, 0, none⟩), .pointer (some ⟨gb, 0, none⟩)] w fun e w' => e = .returned (.tuple #[.int .i64 (wrap64 (a - b)), .nilIface]) ∧ Below w.heap.size w w' := by
  clear hL
  have hd : decide (a < b) = false := decide_eq_false h
  clear h
  go_enter Tryd.func90, Tryd.ntmps90
  go_wp2
  go_ret2
  exact ⟨rfl, Below.refl _ _⟩

set_option maxHeartbeats 2000000 in
theorem sub1_err (ga gb : Nat) (a b : Int) (x : Addr) (w : World) (hL : Laid w) (hx : w.cell? ⟨0, 0, none⟩ = some (.iface 148 (.pointer (some x)))) (h1 : w.cell? ⟨ga, 0, none⟩ = some (.int .i64 a)) (h2 : w.cell? ⟨gb, 0, none⟩ = some (.int .i64 b)) (h : a < b) :
    Calls Tryd.prog 90 #[.pointer (some ⟨ga, 0, none⟩), .pointer (some ⟨gb, 0, none⟩)] w fun e w' => e = .returned (.tuple #[.int .i64 0, .iface 148 (.pointer (some x))]) ∧ Below w.heap.size w w' := by
  clear hL
  have hd : decide (a < b) = true := decide_eq_true h
  clear h
  go_enter Tryd.func90, Tryd.ntmps90
  go_wp2
  all_goals go_region_with fail
  all_goals (try go_wp2)
  all_goals go_ret2
  all_goals exact ⟨rfl, by first | exact Below.refl _ _ | exact below_drew1 (Below.refl _ _)⟩

end Go.Proofs.YtoclldkgkmhgaaaDoor.K

namespace Go.Proofs.YtoclldkgkmhgaaaDoor.K
open Go.RowKit Go.Proofs.YtoclldkgkmhgaaaDoorW.PrintWords Go.Proofs.YtoclldkgkmhgaaaDoorW.PrintLast Go.Proofs.YtoclldkgkmhgaaaDoorW.PrintMore
set_option linter.unusedVariables false
set_option linter.unusedSimpArgs false

end Go.Proofs.YtoclldkgkmhgaaaDoor.K

namespace Go.Proofs.YtoclldkgkmhgaaaDoor.K
open Go.RowKit Go.Proofs.YtoclldkgkmhgaaaDoorW.PrintWords Go.Proofs.YtoclldkgkmhgaaaDoorW.PrintLast Go.Proofs.YtoclldkgkmhgaaaDoorW.PrintMore
set_option linter.unusedVariables false
set_option linter.unusedSimpArgs false

/-- Is a number an amount? -/
def amt (n : Int) : Bool := decide (0 ≤ n ∧ n ≤ 1152921504606846976)
theorem right_amt (n : Int) : money_Right.f n = some (amt n) := by
  unfold amt
  by_cases h : 0 ≤ n ∧ n ≤ 1152921504606846976
  · rw [right_true h, decide_eq_true h]
  · rw [right_false h, decide_eq_false h]
theorem are_two (a b : Int) : money_are.f 4 [a, b] = some (amt a && amt b) := by
  simp only [money_are.f, money_are.l0, rd]
  simp [right_amt, wrap64]
  cases amt a <;> cases amt b <;> simp
theorem two_are (a b : Int) (W : World) (hL : Laid W) (g : Nat) (hb : W.heap[g]? = some (.cells #[.int .i64 a, .int .i64 b] 2 (0, 0))) :
    Calls Tryd.prog 97 #[.slice (some ⟨g, 0, none⟩) 2 2] W fun e w' => e = .returned (.bool (amt a && amt b)) ∧ Below W.heap.size W w' :=
  money_are.calls 4 _ 2 [a, b] _ W hL (C_of_block (Kd.int .i64) (fun x => [.int .i64 x]) hb [a, b] (fun _ => rfl) (fun _ => rfl) rfl (by simp)) (Nat.le_refl _) (are_two a b)

theorem cell_below {w w' : World} {a : Addr} {v : Value} (hb : Below w.heap.size w w') (h : w.cell? a = some v) : w'.cell? a = some v := (hb.cell (cell_lt h)).trans h

set_option maxHeartbeats 2000000 in
theorem done_bad_add (p q : Value) (a b : Int) (w : World) (hL : Laid w) (h : (amt a && amt b) = false) :
    Calls Tryd.prog 89 #[.int .i64 a, .int .i64 b, .func (.func 94) #[] #[p, q]] w fun e w' => e = .returned (.tuple #[.int .i64 0, .int .i64 110]) ∧ Below w.heap.size w w' := by
  have HA := fun g W hW hb => two_are a b W hW g hb
  rw [h] at HA
  have HA' := Aside0.mk HA
  have HL := Aside0.mk hL
  obtain ⟨x, hx⟩ : ∃ x, w.cell? ⟨2, 0, none⟩ = some (.iface 148 (.pointer (some x))) := by
    obtain ⟨a0, a1, a2, c0, c1, c2, t0, t1, t2, g0, _⟩ := hL
    exact ⟨a0, g0⟩
  have HX := Aside0.mk (fun (W : World) (hb : Below w.heap.size w W) => cell_below hb hx)
  clear HA h hL hx
  go_enter Tryd.func89, Tryd.ntmps89
  go_wp2_with (first
    | (go_at_call 97; refine (HA'.out _ _ (Laid_below HL.out (below_alloc (Below.refl _ _) _)) (MapKept.heap_alloc _ _).1).mono ?_; rintro e w1 ⟨rfl, hb1⟩; have hb1' := below_then (below_alloc (Below.refl w.heap.size w) _) (by simp) hb1; have hx1 := HX.out _ hb1'; clear hb1)
    | (go_at_call 98; refine (told_calls _ _ 110 (Laid_below HL.out hb1') (.inl ⟨rfl, HX.out _ hb1'⟩)).mono ?_; rintro e w2 ⟨rfl, rfl⟩))
  go_ret2
  exact ⟨rfl, hb1'⟩

set_option maxHeartbeats 2000000 in
theorem done_ok_add (p q : Value) (a b n : Int) (w : World) (hL : Laid w) (h : (amt a && amt b) = true) (hd : ∀ w1, Below w.heap.size w w1 → Calls Tryd.prog 94 #[p, q] w1 fun e w2 => e = .returned (.tuple #[.int .i64 n, .nilIface]) ∧ Below w1.heap.size w1 w2) :
    Calls Tryd.prog 89 #[.int .i64 a, .int .i64 b, .func (.func 94) #[] #[p, q]] w fun e w' => e = .returned (.tuple #[.int .i64 n, .int .i64 0]) ∧ Below w.heap.size w w' := by
  have HA := fun g W hW hb => two_are a b W hW g hb
  rw [h] at HA
  have HA' := Aside0.mk HA
  have HL := Aside0.mk hL
  have HD := Aside0.mk hd
  clear HA h hL hd
  go_enter Tryd.func89, Tryd.ntmps89
  go_wp2_with (first
    | (go_at_call 97; refine (HA'.out _ _ (Laid_below HL.out (below_alloc (Below.refl _ _) _)) (MapKept.heap_alloc _ _).1).mono ?_; rintro e w1 ⟨rfl, hb1⟩; have hb1' := below_then (below_alloc (Below.refl w.heap.size w) _) (by simp) hb1; clear hb1)
    | (go_at_call 94; refine (HD.out _ hb1').mono ?_; rintro e w2 ⟨rfl, hb2⟩; have hb2' := below_then hb1' hb1'.size hb2))
  go_ret2
  exact ⟨rfl, hb2'⟩

set_option maxHeartbeats 2000000 in
theorem done_err_add (p q : Value) (a b c : Int) (x : Addr) (w : World) (hL : Laid w) (h : (amt a && amt b) = true)
    (hx : (c = 110 ∧ w.cell? ⟨2, 0, none⟩ = some (.iface 148 (.pointer (some x)))) ∨ (c = 111 ∧ w.cell? ⟨1, 0, none⟩ = some (.iface 148 (.pointer (some x)))) ∨ (c = 112 ∧ w.cell? ⟨0, 0, none⟩ = some (.iface 148 (.pointer (some x)))))
    (hd : ∀ w1, Below w.heap.size w w1 → Calls Tryd.prog 94 #[p, q] w1 fun e w2 => e = .returned (.tuple #[.int .i64 0, .iface 148 (.pointer (some x))]) ∧ Below w1.heap.size w1 w2) :
    Calls Tryd.prog 89 #[.int .i64 a, .int .i64 b, .func (.func 94) #[] #[p, q]] w fun e w' => e = .returned (.tuple #[.int .i64 0, .int .i64 c]) ∧ Below w.heap.size w w' := by
  have HA := fun g W hW hb => two_are a b W hW g hb
  rw [h] at HA
  have HA' := Aside0.mk HA
  have HL := Aside0.mk hL
  have HD := Aside0.mk hd
  have HX := Aside0.mk (fun (W : World) (hb : Below w.heap.size w W) => hx.imp (And.imp_right (cell_below hb)) (Or.imp (And.imp_right (cell_below hb)) (And.imp_right (cell_below hb))))
  clear HA h hL hd hx
  go_enter Tryd.func89, Tryd.ntmps89
  go_wp2_with (first
    | (go_at_call 97; refine (HA'.out _ _ (Laid_below HL.out (below_alloc (Below.refl _ _) _)) (MapKept.heap_alloc _ _).1).mono ?_; rintro e w1 ⟨rfl, hb1⟩; have hb1' := below_then (below_alloc (Below.refl w.heap.size w) _) (by simp) hb1; clear hb1)
    | (go_at_call 94; refine (HD.out _ hb1').mono ?_; rintro e w2 ⟨rfl, hb2⟩; have hb2' := below_then hb1' hb1'.size hb2)
    | (go_at_call 98; refine (told_calls _ _ c (Laid_below HL.out hb2') (HX.out _ hb2')).mono ?_; rintro e w3 ⟨rfl, rfl⟩))
  go_ret2
  exact ⟨rfl, hb2'⟩

set_option maxHeartbeats 2000000 in
theorem done_bad_sub (p q : Value) (a b : Int) (w : World) (hL : Laid w) (h : (amt a && amt b) = false) :
    Calls Tryd.prog 89 #[.int .i64 a, .int .i64 b, .func (.func 90) #[] #[p, q]] w fun e w' => e = .returned (.tuple #[.int .i64 0, .int .i64 110]) ∧ Below w.heap.size w w' := by
  have HA := fun g W hW hb => two_are a b W hW g hb
  rw [h] at HA
  have HA' := Aside0.mk HA
  have HL := Aside0.mk hL
  obtain ⟨x, hx⟩ : ∃ x, w.cell? ⟨2, 0, none⟩ = some (.iface 148 (.pointer (some x))) := by
    obtain ⟨a0, a1, a2, c0, c1, c2, t0, t1, t2, g0, _⟩ := hL
    exact ⟨a0, g0⟩
  have HX := Aside0.mk (fun (W : World) (hb : Below w.heap.size w W) => cell_below hb hx)
  clear HA h hL hx
  go_enter Tryd.func89, Tryd.ntmps89
  go_wp2_with (first
    | (go_at_call 97; refine (HA'.out _ _ (Laid_below HL.out (below_alloc (Below.refl _ _) _)) (MapKept.heap_alloc _ _).1).mono ?_; rintro e w1 ⟨rfl, hb1⟩; have hb1' := below_then (below_alloc (Below.refl w.heap.size w) _) (by simp) hb1; have hx1 := HX.out _ hb1'; clear hb1)
    | (go_at_call 98; refine (told_calls _ _ 110 (Laid_below HL.out hb1') (.inl ⟨rfl, HX.out _ hb1'⟩)).mono ?_; rintro e w2 ⟨rfl, rfl⟩))
  go_ret2
  exact ⟨rfl, hb1'⟩

set_option maxHeartbeats 2000000 in
theorem done_ok_sub (p q : Value) (a b n : Int) (w : World) (hL : Laid w) (h : (amt a && amt b) = true) (hd : ∀ w1, Below w.heap.size w w1 → Calls Tryd.prog 90 #[p, q] w1 fun e w2 => e = .returned (.tuple #[.int .i64 n, .nilIface]) ∧ Below w1.heap.size w1 w2) :
    Calls Tryd.prog 89 #[.int .i64 a, .int .i64 b, .func (.func 90) #[] #[p, q]] w fun e w' => e = .returned (.tuple #[.int .i64 n, .int .i64 0]) ∧ Below w.heap.size w w' := by
  have HA := fun g W hW hb => two_are a b W hW g hb
  rw [h] at HA
  have HA' := Aside0.mk HA
  have HL := Aside0.mk hL
  have HD := Aside0.mk hd
  clear HA h hL hd
  go_enter Tryd.func89, Tryd.ntmps89
  go_wp2_with (first
    | (go_at_call 97; refine (HA'.out _ _ (Laid_below HL.out (below_alloc (Below.refl _ _) _)) (MapKept.heap_alloc _ _).1).mono ?_; rintro e w1 ⟨rfl, hb1⟩; have hb1' := below_then (below_alloc (Below.refl w.heap.size w) _) (by simp) hb1; clear hb1)
    | (go_at_call 90; refine (HD.out _ hb1').mono ?_; rintro e w2 ⟨rfl, hb2⟩; have hb2' := below_then hb1' hb1'.size hb2))
  go_ret2
  exact ⟨rfl, hb2'⟩

set_option maxHeartbeats 2000000 in
theorem done_err_sub (p q : Value) (a b c : Int) (x : Addr) (w : World) (hL : Laid w) (h : (amt a && amt b) = true)
    (hx : (c = 110 ∧ w.cell? ⟨2, 0, none⟩ = some (.iface 148 (.pointer (some x)))) ∨ (c = 111 ∧ w.cell? ⟨1, 0, none⟩ = some (.iface 148 (.pointer (some x)))) ∨ (c = 112 ∧ w.cell? ⟨0, 0, none⟩ = some (.iface 148 (.pointer (some x)))))
    (hd : ∀ w1, Below w.heap.size w w1 → Calls Tryd.prog 90 #[p, q] w1 fun e w2 => e = .returned (.tuple #[.int .i64 0, .iface 148 (.pointer (some x))]) ∧ Below w1.heap.size w1 w2) :
    Calls Tryd.prog 89 #[.int .i64 a, .int .i64 b, .func (.func 90) #[] #[p, q]] w fun e w' => e = .returned (.tuple #[.int .i64 0, .int .i64 c]) ∧ Below w.heap.size w w' := by
  have HA := fun g W hW hb => two_are a b W hW g hb
  rw [h] at HA
  have HA' := Aside0.mk HA
  have HL := Aside0.mk hL
  have HD := Aside0.mk hd
  have HX := Aside0.mk (fun (W : World) (hb : Below w.heap.size w W) => hx.imp (And.imp_right (cell_below hb)) (Or.imp (And.imp_right (cell_below hb)) (And.imp_right (cell_below hb))))
  clear HA h hL hd hx
  go_enter Tryd.func89, Tryd.ntmps89
  go_wp2_with (first
    | (go_at_call 97; refine (HA'.out _ _ (Laid_below HL.out (below_alloc (Below.refl _ _) _)) (MapKept.heap_alloc _ _).1).mono ?_; rintro e w1 ⟨rfl, hb1⟩; have hb1' := below_then (below_alloc (Below.refl w.heap.size w) _) (by simp) hb1; clear hb1)
    | (go_at_call 90; refine (HD.out _ hb1').mono ?_; rintro e w2 ⟨rfl, hb2⟩; have hb2' := below_then hb1' hb1'.size hb2)
    | (go_at_call 98; refine (told_calls _ _ c (Laid_below HL.out hb2') (HX.out _ hb2')).mono ?_; rintro e w3 ⟨rfl, rfl⟩))
  go_ret2
  exact ⟨rfl, hb2'⟩
end Go.Proofs.YtoclldkgkmhgaaaDoor.K

namespace Go.Proofs.YtoclldkgkmhgaaaDoor.K
open Go.RowKit Go.Proofs.YtoclldkgkmhgaaaDoorW.PrintWords Go.Proofs.YtoclldkgkmhgaaaDoorW.PrintLast Go.Proofs.YtoclldkgkmhgaaaDoorW.PrintMore
set_option linter.unusedVariables false
set_option linter.unusedSimpArgs false

def addF (a b : Int) : Int × Int := if (amt a && amt b) = true then (if a + b ≤ 1152921504606846976 then (a + b, 0) else (0, 111)) else (0, 110)
def subF (a b : Int) : Int × Int := if (amt a && amt b) = true then (if a < b then (0, 112) else (a - b, 0)) else (0, 110)
def money_Add.f (a b : Int) : Option (Int × Int) := some (addF a b)
def money_Sub.f (a b : Int) : Option (Int × Int) := some (subF a b)
theorem amt_two {a b : Int} (h : (amt a && amt b) = true) : (0 ≤ a ∧ a ≤ 1152921504606846976) ∧ (0 ≤ b ∧ b ≤ 1152921504606846976) := by
  unfold amt at h
  simpa using h
theorem wrap64_small {n : Int} (h0 : -4611686018427387904 ≤ n) (h1 : n ≤ 4611686018427387904) : wrap64 n = n := by unfold wrap64; omega
theorem cell_fst (w : World) (a b : Value) (t t' : TypeId) (w1 : World) (hb : Below ((w.alloc (.cells #[a] t)).alloc (.cells #[b] t')).heap.size ((w.alloc (.cells #[a] t)).alloc (.cells #[b] t')) w1) : w1.cell? ⟨w.heap.size, 0, none⟩ = some a :=
  (blk_cell ((hb.block _ (by simp; omega)).trans (alloc2_fst w _ _)) 0).trans rfl
theorem cell_snd (w : World) (a b : Value) (t t' : TypeId) (w1 : World) (hb : Below ((w.alloc (.cells #[a] t)).alloc (.cells #[b] t')).heap.size ((w.alloc (.cells #[a] t)).alloc (.cells #[b] t')) w1) : w1.cell? ⟨w.heap.size + 1, 0, none⟩ = some b :=
  (blk_cell ((hb.block _ (by simp)).trans (alloc2_new w _ _)) 0).trans rfl
theorem below_two (w : World) (X Y : Obj) : Below w.heap.size w ((w.alloc X).alloc Y) := below_alloc (below_alloc (Below.refl _ _) _) _
theorem laid_two {w : World} (X Y : Obj) (h : Laid w) : Laid ((w.alloc X).alloc Y) := Laid_below h (below_two w X Y)
theorem laid_over {w : World} (h : Laid w) : ∃ x, w.cell? ⟨1, 0, none⟩ = some (.iface 148 (.pointer (some x))) := by
  obtain ⟨a0, a1, a2, c0, c1, c2, t0, t1, t2, g0, g1, g2, _⟩ := h
  exact ⟨a1, g1⟩
theorem laid_funds {w : World} (h : Laid w) : ∃ x, w.cell? ⟨0, 0, none⟩ = some (.iface 148 (.pointer (some x))) := by
  obtain ⟨a0, a1, a2, c0, c1, c2, t0, t1, t2, g0, g1, g2, _⟩ := h
  exact ⟨a2, g2⟩

/-- What done does with the closure over the two boxes. -/
theorem add_done (a b : Int) (w : World) (hL : Laid w) :
    Calls Tryd.prog 89 #[.int .i64 a, .int .i64 b, .func (.func 94) #[] #[.pointer (some ⟨w.heap.size, 0, none⟩), .pointer (some ⟨w.heap.size + 1, 0, none⟩)]] ((w.alloc (.cells #[.int .i64 a] 2)).alloc (.cells #[.int .i64 b] 2)) fun e w' => e = .returned (.tuple #[.int .i64 (addF a b).1, .int .i64 (addF a b).2]) ∧ Below w.heap.size w w' := by
  have hL2 := laid_two (.cells #[.int .i64 a] 2) (.cells #[.int .i64 b] 2) hL
  have up : ∀ w', Below ((w.alloc (.cells #[.int .i64 a] 2)).alloc (.cells #[.int .i64 b] 2)).heap.size ((w.alloc (.cells #[.int .i64 a] 2)).alloc (.cells #[.int .i64 b] 2)) w' → Below w.heap.size w w' := fun w' hb => below_then (below_two w _ _) (below_two w _ _).size hb
  by_cases h : (amt a && amt b) = true
  · obtain ⟨ha, hb⟩ := amt_two h
    by_cases hs : a + b ≤ 1152921504606846976
    · rw [show addF a b = (a + b, 0) from by unfold addF; rw [if_pos h, if_pos hs]]
      refine (done_ok_add _ _ a b (a + b) _ hL2 h fun w1 hb1 => ?_).mono fun e w' ⟨he, hb⟩ => ⟨he, up w' hb⟩
      have := add1_ok w.heap.size (w.heap.size + 1) a b w1 (Laid_below hL2 hb1) (cell_fst _ _ _ _ _ _ hb1) (cell_snd _ _ _ _ _ _ hb1) (by rw [wrap64_small (by omega) (by omega)]; exact right_true ⟨by omega, hs⟩)
      rw [wrap64_small (by omega) (by omega)] at this
      exact this
    · rw [show addF a b = (0, 111) from by unfold addF; rw [if_pos h, if_neg hs]]
      obtain ⟨x, hx⟩ := laid_over hL2
      refine (done_err_add _ _ a b 111 x _ hL2 h (.inr (.inl ⟨rfl, hx⟩)) fun w1 hb1 => ?_).mono fun e w' ⟨he, hb⟩ => ⟨he, up w' hb⟩
      exact add1_err w.heap.size (w.heap.size + 1) a b x w1 (Laid_below hL2 hb1) (cell_below hb1 hx) (cell_fst _ _ _ _ _ _ hb1) (cell_snd _ _ _ _ _ _ hb1) (by rw [wrap64_small (by omega) (by omega)]; exact right_false (by omega))
  · rw [show addF a b = (0, 110) from by unfold addF; rw [if_neg h]]
    exact (done_bad_add _ _ a b _ hL2 (by simpa using h)).mono fun e w' ⟨he, hb⟩ => ⟨he, up w' hb⟩

set_option maxHeartbeats 2000000 in
theorem money_Add.calls (a0 : Int) (a1 : Int) (r1 : Int) (r2 : Int) (w : World) (hL : Laid w) (h : money_Add.f a0 a1 = some (r1, r2)) :
    Calls Tryd.prog 83 #[.int .i64 a0, .int .i64 a1] w fun e w' => e = .returned (.tuple #[.int .i64 r1, .int .i64 r2]) ∧ Below w.heap.size w w' := by
  have e1 : addF a0 a1 = (r1, r2) := Option.some.inj h
  have HD := add_done a0 a1 w hL
  rw [e1] at HD
  have HD' := Aside0.mk HD
  clear HD h hL e1
  go_enter Tryd.func83, Tryd.ntmps83
  go_wp2_with (go_at_call 89; refine HD'.out.mono ?_; rintro e w1 ⟨rfl, hb⟩)
  go_ret2
  exact ⟨rfl, hb⟩

/-- What done does with the closure over the two boxes. -/
theorem sub_done (a b : Int) (w : World) (hL : Laid w) :
    Calls Tryd.prog 89 #[.int .i64 a, .int .i64 b, .func (.func 90) #[] #[.pointer (some ⟨w.heap.size, 0, none⟩), .pointer (some ⟨w.heap.size + 1, 0, none⟩)]] ((w.alloc (.cells #[.int .i64 a] 2)).alloc (.cells #[.int .i64 b] 2)) fun e w' => e = .returned (.tuple #[.int .i64 (subF a b).1, .int .i64 (subF a b).2]) ∧ Below w.heap.size w w' := by
  have hL2 := laid_two (.cells #[.int .i64 a] 2) (.cells #[.int .i64 b] 2) hL
  have up : ∀ w', Below ((w.alloc (.cells #[.int .i64 a] 2)).alloc (.cells #[.int .i64 b] 2)).heap.size ((w.alloc (.cells #[.int .i64 a] 2)).alloc (.cells #[.int .i64 b] 2)) w' → Below w.heap.size w w' := fun w' hb => below_then (below_two w _ _) (below_two w _ _).size hb
  by_cases h : (amt a && amt b) = true
  · obtain ⟨ha, hb⟩ := amt_two h
    by_cases hs : a < b
    · rw [show subF a b = (0, 112) from by unfold subF; rw [if_pos h, if_pos hs]]
      obtain ⟨x, hx⟩ := laid_funds hL2
      refine (done_err_sub _ _ a b 112 x _ hL2 h (.inr (.inr ⟨rfl, hx⟩)) fun w1 hb1 => ?_).mono fun e w' ⟨he, hb⟩ => ⟨he, up w' hb⟩
      exact sub1_err w.heap.size (w.heap.size + 1) a b x w1 (Laid_below hL2 hb1) (cell_below hb1 hx) (cell_fst _ _ _ _ _ _ hb1) (cell_snd _ _ _ _ _ _ hb1) hs
    · rw [show subF a b = (a - b, 0) from by unfold subF; rw [if_pos h, if_neg hs]]
      refine (done_ok_sub _ _ a b (a - b) _ hL2 h fun w1 hb1 => ?_).mono fun e w' ⟨he, hb⟩ => ⟨he, up w' hb⟩
      have := sub1_ok w.heap.size (w.heap.size + 1) a b w1 (Laid_below hL2 hb1) (cell_fst _ _ _ _ _ _ hb1) (cell_snd _ _ _ _ _ _ hb1) hs
      rw [wrap64_small (by omega) (by omega)] at this
      exact this
  · rw [show subF a b = (0, 110) from by unfold subF; rw [if_neg h]]
    exact (done_bad_sub _ _ a b _ hL2 (by simpa using h)).mono fun e w' ⟨he, hb⟩ => ⟨he, up w' hb⟩

set_option maxHeartbeats 2000000 in
theorem money_Sub.calls (a0 : Int) (a1 : Int) (r1 : Int) (r2 : Int) (w : World) (hL : Laid w) (h : money_Sub.f a0 a1 = some (r1, r2)) :
    Calls Tryd.prog 75 #[.int .i64 a0, .int .i64 a1] w fun e w' => e = .returned (.tuple #[.int .i64 r1, .int .i64 r2]) ∧ Below w.heap.size w w' := by
  have e1 : subF a0 a1 = (r1, r2) := Option.some.inj h
  have HD := sub_done a0 a1 w hL
  rw [e1] at HD
  have HD' := Aside0.mk HD
  clear HD h hL e1
  go_enter Tryd.func75, Tryd.ntmps75
  go_wp2_with (go_at_call 89; refine HD'.out.mono ?_; rintro e w1 ⟨rfl, hb⟩)
  go_ret2
  exact ⟨rfl, hb⟩
end Go.Proofs.YtoclldkgkmhgaaaDoor.K

namespace Go.Proofs.YtoclldkgkmhgaaaDoor.K
open Go.RowKit Go.Proofs.YtoclldkgkmhgaaaDoorW.PrintWords Go.Proofs.YtoclldkgkmhgaaaDoorW.PrintLast Go.Proofs.YtoclldkgkmhgaaaDoorW.PrintMore
set_option linter.unusedVariables false
set_option linter.unusedSimpArgs false

end Go.Proofs.YtoclldkgkmhgaaaDoor.K

namespace Go.Proofs.YtoclldkgkmhgaaaDoor.K
open Go.RowKit Go.Proofs.YtoclldkgkmhgaaaDoorW.PrintWords Go.Proofs.YtoclldkgkmhgaaaDoorW.PrintLast Go.Proofs.YtoclldkgkmhgaaaDoorW.PrintMore
attribute [local go_sem] max2_int min2_int max_two min_two max_three min_three max_four min_four   -- for this text's walks alone
set_option linter.unusedVariables false
set_option linter.unusedSimpArgs false

/-! ### accounts_purse_isRight: function 88 -/
def accounts_purse_isRight.f (a0_0 : Int) (a0_1 : Int) : Option (Bool) := (money_Add.f a0_0 a0_1).bind fun bt138 => (some (bt138.2 == 0))
set_option maxHeartbeats 8000000 in
set_option maxRecDepth 100000 in
theorem accounts_purse_isRight.calls (a0_0 : Int) (a0_1 : Int) (r : Bool) (w : World) (hL : Laid w) (h : accounts_purse_isRight.f a0_0 a0_1 = some r) :
    Calls Tryd.prog 88 #[.agg #[.int .i64 a0_0, .int .i64 a0_1]] w fun e w' => e = .returned (.bool r) ∧ Below w.heap.size w w' := by
  have hu96 := Tryd.underlying96
  have HLD := Aside0.mk hL
  clear hL
  have HB := Aside0.mk (Below.refl w.heap.size w)
  have H : ((money_Add.f a0_0 a0_1).bind fun bt138 => (some (bt138.2 == 0))) = some r := h
  clear h
  replace H := Option.bind_eq_some_iff.mp H
  obtain ⟨⟨t138, t139⟩, A20, H⟩ := H
  replace H : (some (t139 == 0)) = some r := H
  have A2 := Aside0.mk A20
  clear A20
  obtain rfl := Option.some.inj H
  go_enter Tryd.func88, Tryd.ntmps88
  go_wp2_with (first | ((with_reducible refine gate_dst (N := 1) rfl ?_); refine box_event ?hg (N := 1) ?hd (cs := #[.int .i64 a0_0, .int .i64 a0_1]) (t := 96) ?hr ?_; (case hd => rfl); (case hg => rfl); (case hr => first | (go_simp; done) | (go_simp; rfl)); intro gb137 hg w3 hbox hb; have n0_ := Aside0.mk (below_step (by repeat (first | (with_reducible first | exact HB.out | apply below_alloc | apply pw_below_drewN | apply below_drew1) | exact HB.out)) hb); have n1_ := Aside0.mk (hbox); have n2_ := Aside0.mk ((by rw [hg]; exact (below_size (by repeat (first | (with_reducible first | exact HB.out | apply below_alloc | apply pw_below_drewN | apply below_drew1) | exact HB.out))) : w.heap.size ≤ gb137)); have n3_ := Aside0.mk ((by rw [hg]; exact (below_size (by repeat (first | (with_reducible first | exact HB.out | apply below_alloc | apply pw_below_drewN | apply below_drew1) | exact HB.out))) : w.heap.size ≤ gb137)); clear HB; have HB := n0_; have BK137 := n1_; have GW137 := n2_; have GE137 := n3_; clear n0_ n1_ n2_ n3_; clear hb hbox hg; have hcz4_0 : w3.cell? ⟨gb137, 0, none⟩ = some (.int .i64 a0_0) := (blk_cell BK137.out 0).trans rfl; have hcz4_1 : w3.cell? ⟨gb137, 1, none⟩ = some (.int .i64 a0_1) := (blk_cell BK137.out 1).trans rfl; have hfz4_0 := blk_frozen BK137.out 0; have hfz4_1 := blk_frozen BK137.out 1) | ((with_reducible refine gate_callee (f := 83) rfl ?_); refine goesL_ (some 12) rfl rfl Tryd.func83 (by kernel_rfl) rfl #[.int .i64 a0_0, .int .i64 a0_1] rfl (by (try simp only [List.map_toArray, List.map_cons, List.map_nil]); first | done | rfl | (simp only [List.length_drop, List.length_take]; rfl)) ?_; (with_reducible refine (money_Add.calls a0_0 a0_1 t138 t139 _ ?side1 A2.out).mono ?_); (case side1 => exact Laid_below HLD.out (by repeat (first | (with_reducible first | exact HB.out | apply below_alloc | apply pw_below_drewN | apply below_drew1 | refine below_set ?_ GE137.out) | exact HB.out))); rintro e w5 ⟨rfl, hb⟩; refine ⟨_, rfl, ?_⟩; have n0_ := Aside0.mk (blk_below (g := gb137) (o := .cells #[.int .i64 a0_0, .int .i64 a0_1] 96 (0, 0)) (by (with_reducible repeat (first | refine blk_drewN ?_ _ | refine blk_drew ?_ | refine blk_alloc ?_ _)); exact BK137.out) hb); have n1_ := Aside0.mk (below_step (by repeat (first | (with_reducible first | exact HB.out | apply below_alloc | apply pw_below_drewN | apply below_drew1 | refine below_set ?_ GE137.out) | exact HB.out)) hb); clear BK137; clear HB; have BK137 := n0_; have HB := n1_; clear n0_ n1_; (try clear hb); (try clear hb2); (try clear hk); (try clear hi)))
  go_ret
  exact ⟨by first | rfl | (simp [errW_none, errW_some] <;> rfl) | (simp [*, errW_none, errW_some] <;> rfl), by repeat (first | (with_reducible first | exact HB.out | apply below_alloc | apply pw_below_drewN | apply below_drew1 | refine below_set ?_ GE137.out) | exact HB.out)⟩

end Go.Proofs.YtoclldkgkmhgaaaDoor.K

namespace Go.Proofs.YtoclldkgkmhgaaaDoor.K
open Go.RowKit Go.Proofs.YtoclldkgkmhgaaaDoor.Rng Go.Proofs.YtoclldkgkmhgaaaDoorW.PrintWords Go.Proofs.YtoclldkgkmhgaaaDoorW.PrintLast Go.Proofs.YtoclldkgkmhgaaaDoorW.PrintMore
set_option linter.unusedVariables false
set_option linter.unusedSimpArgs false

/-- What a method leaves: the purse's block holds two other numbers, no other block is touched. -/
def Left2 (g : Nat) (x y : Int) (W W' : World) : Prop := W'.heap[g]? = some (.cells #[.int .i64 x, .int .i64 y] 96 (0, 0)) ∧ StepZ (fun k => k = g) W W'

set_option maxHeartbeats 4000000 in
theorem spends_calls (g : Nat) (a b n x c : Int) (W : World) (hL : Laid W) (hg : W.heap[g]? = some (.cells #[.int .i64 a, .int .i64 b] 96 (0, 0))) (h : subF a n = (x, c)) :
    Calls Tryd.prog 73 #[.pointer (some ⟨g, 0, none⟩), .int .i64 n] W fun e W' => e = .returned (.int .i64 c) ∧ Left2 g x b W W' := by
  have HS := Aside0.mk (money_Sub.calls a n x c W hL (by unfold money_Sub.f; rw [h]))
  have HG := Aside0.mk hg
  have c0 := (blk_cell hg 0).trans rfl
  have c1 := (blk_cell hg 1).trans rfl
  clear hL h hg
  have hu58 := Tryd.underlying96
  have hu23 := Tryd.underlying38
  go_enter Tryd.func73, Tryd.ntmps73
  go_wp2_with (go_at_call 75; refine HS.out.mono ?_; rintro e w1 ⟨rfl, hb⟩; have hg1 := (hb.block _ (Array.getElem?_eq_some_iff.1 HG.out).1).trans HG.out; have d0 := (blk_cell hg1 0).trans rfl; have f0 := blk_frozen hg1 0; have HG1 := Aside0.mk hg1; have HB1 := Aside0.mk hb; clear hb hg1)
  go_ret
  exact ⟨rfl, by simpa using blk_set HG1.out 0 (.int .i64 x), (StepZ.of_below HB1.out).trans (StepZ.setCell (Z := fun k => k = g) _ _ rfl)⟩

set_option maxHeartbeats 4000000 in
theorem earns_calls (w0 : World) (g : Nat) (a b n x c y d : Int) (W : World) (hL0 : Laid w0) (hb0 : Below w0.heap.size w0 W) (hgb : w0.heap.size ≤ g) (hg : W.heap[g]? = some (.cells #[.int .i64 a, .int .i64 b] 96 (0, 0))) (h : addF a n = (x, c)) (h2 : addF x b = (y, d)) :
    Calls Tryd.prog 82 #[.pointer (some ⟨g, 0, none⟩), .int .i64 n] W fun e W' => e = .returned (.int .i64 (if c = 0 then d else c)) ∧ Left2 g x b W W' := by
  have hL := Laid_below hL0 hb0
  have HS := Aside0.mk (money_Add.calls a n x c W hL (by unfold money_Add.f; rw [h]))
  have HT := Aside0.mk (fun (w' : World) (hb : Below w0.heap.size w0 w') => money_Add.calls x b y d w' (Laid_below hL0 hb) (by unfold money_Add.f; rw [h2]))
  have HG := Aside0.mk hg
  have HB0 := Aside0.mk hb0
  have c0 := (blk_cell hg 0).trans rfl
  have c1 := (blk_cell hg 1).trans rfl
  clear hL h h2 hg hL0 hb0
  have hu58 := Tryd.underlying96
  have hu23 := Tryd.underlying38
  by_cases hc : c = 0
  · subst hc
    rw [if_pos rfl]
    go_enter Tryd.func82, Tryd.ntmps82
    go_wp2_with (go_at_call 83; refine HS.out.mono ?_; rintro e w1 ⟨rfl, hb⟩; have hg1 := (hb.block _ (Array.getElem?_eq_some_iff.1 HG.out).1).trans HG.out; have d0 := (blk_cell hg1 0).trans rfl; have d1 := (blk_cell hg1 1).trans rfl; have f0 := blk_frozen hg1 0; have HG1 := Aside0.mk hg1; have HB1 := Aside0.mk hb; clear hb hg1)
    have hv := blk_set HG1.out 0 (.int .i64 x)
    have hv' : (w1.setCell ⟨g, 0, none⟩ (.int .i64 x)).heap[g]? = some (.cells #[.int .i64 x, .int .i64 b] 96 (0, 0)) := by simpa using hv
    have hm2 : StepZ (fun k => k = g) W (w1.setCell ⟨g, 0, none⟩ (.int .i64 x)) := (StepZ.of_below HB1.out).trans (StepZ.setCell (Z := fun k => k = g) _ _ rfl)
    have hm0 : Below w0.heap.size w0 (w1.setCell ⟨g, 0, none⟩ (.int .i64 x)) := HB0.out.trans (hm2.below HB0.out.size (fun k hk => by omega))
    generalize w1.setCell ⟨g, 0, none⟩ (.int .i64 x) = V at *
    have e0 := (blk_cell hv' 0).trans rfl
    have e1 := (blk_cell hv' 1).trans rfl
    have HV := Aside0.mk hv'
    have HM := Aside0.mk hm2
    have HM0 := Aside0.mk hm0
    clear hv hv' hm2 hm0 d0 d1 f0 c0 c1
    go_region_with (go_at_call 83; refine (HT.out _ (by repeat (first | exact HM0.out | apply below_drew1))).mono ?_; rintro e w2 ⟨rfl, hb⟩; have HB2 := Aside0.mk hb; have HG2 := Aside0.mk ((hb.block _ (by exact (Array.getElem?_eq_some_iff.1 HV.out).1)).trans HV.out); clear hb)
    all_goals (go_wp2; go_ret)
    all_goals exact ⟨rfl, HG2.out, HM.out.trans ((StepZ.drew _ _).trans (StepZ.of_below HB2.out))⟩
  · rw [if_neg hc]
    have hc' : (c != 0) = true := bne_iff_ne.mpr hc
    clear hc
    go_enter Tryd.func82, Tryd.ntmps82
    go_wp2_with (go_at_call 83; refine HS.out.mono ?_; rintro e w1 ⟨rfl, hb⟩; have hg1 := (hb.block _ (Array.getElem?_eq_some_iff.1 HG.out).1).trans HG.out; have d0 := (blk_cell hg1 0).trans rfl; have d1 := (blk_cell hg1 1).trans rfl; have f0 := blk_frozen hg1 0; have HG1 := Aside0.mk hg1; have HB1 := Aside0.mk hb; clear hb hg1)
    go_ret
    exact ⟨rfl, by simpa using blk_set HG1.out 0 (.int .i64 x), (StepZ.of_below HB1.out).trans (StepZ.setCell (Z := fun k => k = g) _ _ rfl)⟩

end Go.Proofs.YtoclldkgkmhgaaaDoor.K

namespace Go.Proofs.YtoclldkgkmhgaaaDoor.K
open Go.RowKit Go.Proofs.YtoclldkgkmhgaaaDoor.Rng Go.Proofs.YtoclldkgkmhgaaaDoorW.PrintWords Go.Proofs.YtoclldkgkmhgaaaDoorW.PrintLast Go.Proofs.YtoclldkgkmhgaaaDoorW.PrintMore
set_option linter.unusedVariables false
set_option linter.unusedSimpArgs false
attribute [local go_sem high] eqA38

theorem pw_below {B : Nat} {w W : World} (h : Below B w W) (n : Nat) : Below B w (W.drewN n) := ⟨h.os, h.tape, h.output, h.size, h.block⟩

set_option maxHeartbeats 4000000 in
theorem does_no (M : Value) (w0 : World) (g : Nat) (a b n : Int) (W : World) (hL0 : Laid w0) (hb0 : Below w0.heap.size w0 W) (hgb : w0.heap.size ≤ g)
    (hg : W.heap[g]? = some (.cells #[.int .i64 a, .int .i64 b] 96 (0, 0))) (hr : (addF a b).2 ≠ 0) :
    Calls Tryd.prog 72 #[.pointer (some ⟨g, 0, none⟩), M, .int .i64 n] W fun e W' => e = .returned (.tuple #[.agg #[.int .i64 0, .int .i64 0], .int .i64 130]) ∧ Below g W W' := by
  have HR := Aside0.mk (fun (w' : World) (hb : Below w0.heap.size w0 w') => accounts_purse_isRight.calls a b false w' (Laid_below hL0 hb) (by simp [accounts_purse_isRight.f, money_Add.f, hr]))
  have HG := Aside0.mk hg
  have HB0 := Aside0.mk hb0
  have c0 := (blk_cell hg 0).trans rfl
  have c1 := (blk_cell hg 1).trans rfl
  have hgl : g < W.heap.size := (Array.getElem?_eq_some_iff.1 hg).1
  clear hL0 hb0 hg hr
  have hu58 := Tryd.underlying96
  have hu23 := Tryd.underlying38
  go_enter Tryd.func72, Tryd.ntmps72
  go_wp2_with (go_at_call 88; refine (HR.out _ (below_alloc HB0.out _)).mono ?_; rintro e w1 ⟨rfl, hb⟩; have hq := (hb.block _ (by simp)).trans (MapKept.heap_alloc W _).1; have q0 := (blk_cell hq 0).trans rfl; have q1 := (blk_cell hq 1).trans rfl; have f0 := blk_frozen hq 0; have f1 := blk_frozen hq 1; have HQ := Aside0.mk hq; have HB1 := Aside0.mk (below_then (below_alloc (Below.refl W.heap.size W) _) (by simp) hb); clear hb hq)
  have hz := blk_set (blk_set HQ.out 0 (.int .i64 0)) 1 (.int .i64 0)
  have hm : Below g W ((w1.setCell ⟨W.heap.size, 0, none⟩ (.int .i64 0)).setCell ⟨W.heap.size, 1, none⟩ (.int .i64 0)) := ((HB1.out.mono (Nat.le_of_lt hgl)).setCell (Nat.le_of_lt hgl) _).setCell (Nat.le_of_lt hgl) _
  generalize (w1.setCell ⟨W.heap.size, 0, none⟩ (.int .i64 0)).setCell ⟨W.heap.size, 1, none⟩ (.int .i64 0) = V at hz hm ⊢
  have z0 := (blk_cell hz 0).trans rfl
  have z1 := (blk_cell hz 1).trans rfl
  exact bodyPost_ret (v := .tuple #[.agg #[.int .i64 0, .int .i64 0], .int .i64 130]) (by simp [results, Tryd.results72, go_sem, z0, z1]) rfl ⟨rfl, hm⟩

set_option maxRecDepth 100000 in
set_option maxHeartbeats 8000000 in
theorem does_earns (w0 : World) (g : Nat) (a b n x y c p q : Int) (W : World) (hres : (c = 0 ∧ p = x ∧ q = y) ∨ (c ≠ 0 ∧ p = 0 ∧ q = 0)) (hL0 : Laid w0) (hb0 : Below w0.heap.size w0 W) (hgb : w0.heap.size ≤ g)
    (hg : W.heap[g]? = some (.cells #[.int .i64 a, .int .i64 b] 96 (0, 0))) (hr : (addF a b).2 = 0)
    (HM : ∀ W1, Below w0.heap.size w0 W1 → W1.heap[g]? = some (.cells #[.int .i64 a, .int .i64 b] 96 (0, 0)) → Calls Tryd.prog 82 #[.pointer (some ⟨g, 0, none⟩), .int .i64 n] W1 fun e W' => e = .returned (.int .i64 c) ∧ Left2 g x y W1 W') :
    Calls Tryd.prog 72 #[.pointer (some ⟨g, 0, none⟩), .func (.func 82) #[.pointer (some ⟨g, 0, none⟩)] #[], .int .i64 n] W fun e W' => e = .returned (.tuple #[.agg #[.int .i64 p, .int .i64 q], .int .i64 c]) ∧ Below g W W' := by
  have HR := Aside0.mk (fun (w' : World) (hb : Below w0.heap.size w0 w') => accounts_purse_isRight.calls a b true w' (Laid_below hL0 hb) (by simp [accounts_purse_isRight.f, money_Add.f, hr]))
  have HG := Aside0.mk hg
  have HB0 := Aside0.mk hb0
  have HMM := Aside0.mk HM
  have HRES := Aside0.mk hres
  clear hres
  have c0 := (blk_cell hg 0).trans rfl
  have c1 := (blk_cell hg 1).trans rfl
  have hgl : g < W.heap.size := (Array.getElem?_eq_some_iff.1 hg).1
  have HGL := Aside0.mk hgl
  clear hL0 hb0 hg hr HM
  have hu58 := Tryd.underlying96
  have hu23 := Tryd.underlying38
  go_enter Tryd.func72, Tryd.ntmps72
  go_upto_region 5 with (first
    | (go_at_call 88; refine (HR.out _ (below_alloc HB0.out _)).mono ?_; rintro e w1 ⟨rfl, hb⟩; have hq := (hb.block _ (by simp)).trans (MapKept.heap_alloc W _).1; have hg1 := (hb.block g (by have := HGL.out; simp; omega)).trans (alloc_old _ HG.out); have HQ := Aside0.mk hq; have HG1 := Aside0.mk hg1; have HB1 := Aside0.mk (below_then (below_alloc (Below.refl W.heap.size W) _) (by simp) hb); clear hb hq hg1)
    | (go_at_call 82; refine (HMM.out _ (HB0.out.trans (HB1.out.mono (by have := HB0.out.size; omega))) HG1.out).mono ?_; rintro e w2 ⟨rfl, hl2⟩; have HL2 := Aside0.mk hl2; clear hl2))
  have hst : StepZ (fun k => k = g) w1 w2 := HL2.out.2
  have hqq := hst.at_ HQ.out (by show ¬ W.heap.size = g; have := HGL.out; omega)
  have hv1 := alloc_old (.cells #[.int .i64 0, .int .i64 0] 38) HL2.out.1
  have hv2 := alloc_old (.cells #[.int .i64 0, .int .i64 0] 38) hqq
  have hv3 := (MapKept.heap_alloc w2 (.cells #[.int .i64 0, .int .i64 0] 38)).1
  have hlt2 : W.heap.size < w2.heap.size := (Array.getElem?_eq_some_iff.1 hqq).1
  have hbw : Below g W (w2.alloc (.cells #[.int .i64 0, .int .i64 0] 38)) := ((HB1.out.mono (Nat.le_of_lt hgl)).trans (hst.below (by have := HB1.out.size; omega) (fun k hk => by omega))).alloc (by omega) _
  have HQB := Aside0.mk (show g ≤ W.heap.size from Nat.le_of_lt hgl)
  have hneg : g ≠ W.heap.size := by omega
  clear hst hqq c0 c1 hgl
  generalize w2.alloc (.cells #[.int .i64 0, .int .i64 0] 38) = V at *
  have g0 := (blk_cell hv1 0).trans rfl
  have g1 := (blk_cell hv1 1).trans rfl
  have k0 := blk_frozen hv1 0
  have k1 := blk_frozen hv1 1
  have q0 := (blk_cell hv2 0).trans rfl
  have q1 := (blk_cell hv2 1).trans rfl
  have f0 := blk_frozen hv2 0
  have f1 := blk_frozen hv2 1
  have r0 := (blk_cell hv3 0).trans rfl
  have r1 := (blk_cell hv3 1).trans rfl
  have HV1 := Aside0.mk hv1
  have HV2 := Aside0.mk hv2
  have HVB := Aside0.mk hbw
  clear hv1 hv2 hv3 hbw
  have hres := HRES.out
  clear HRES
  rcases hres with ⟨rfl, rfl, rfl⟩ | ⟨hc, rfl, rfl⟩
  · go_quiet (fail)
    go_wp2
    have hz : (((V.drewN nq).setCell ⟨W.heap.size, 0, none⟩ (.int .i64 p)).setCell ⟨W.heap.size, 1, none⟩ (.int .i64 q)).heap[W.heap.size]? = some (.cells #[.int .i64 p, .int .i64 q] 38 (0, 0)) := by simpa using blk_set (blk_set (blk_drewN HV2.out nq) 0 (.int .i64 p)) 1 (.int .i64 q)
    have hb : Below g W (((V.drewN nq).setCell ⟨W.heap.size, 0, none⟩ (.int .i64 p)).setCell ⟨W.heap.size, 1, none⟩ (.int .i64 q)) := ((pw_below HVB.out nq).setCell HQB.out _).setCell HQB.out _
    generalize ((V.drewN nq).setCell ⟨W.heap.size, 0, none⟩ (.int .i64 p)).setCell ⟨W.heap.size, 1, none⟩ (.int .i64 q) = Y at hz hb ⊢
    have z0 := (blk_cell hz 0).trans rfl
    have z1 := (blk_cell hz 1).trans rfl
    exact bodyPost_ret (v := .tuple #[.agg #[.int .i64 p, .int .i64 q], .int .i64 0]) (by simp [results, Tryd.results72, go_sem, z0, z1]) rfl ⟨rfl, hb⟩
  · have hc' : (c != 0) = true := bne_iff_ne.mpr hc
    clear hc
    cases hxy : (x == 0 && y == 0) with
    | true =>
      obtain ⟨rfl, rfl⟩ : x = 0 ∧ y = 0 := by simpa using hxy
      go_quiet (fail)
      go_wp2
      have hz : (((V.drewN nq).setCell ⟨W.heap.size, 0, none⟩ (.int .i64 0)).setCell ⟨W.heap.size, 1, none⟩ (.int .i64 0)).heap[W.heap.size]? = some (.cells #[.int .i64 0, .int .i64 0] 38 (0, 0)) := by simpa using blk_set (blk_set (blk_drewN HV2.out nq) 0 (.int .i64 0)) 1 (.int .i64 0)
      have hb : Below g W (((V.drewN nq).setCell ⟨W.heap.size, 0, none⟩ (.int .i64 0)).setCell ⟨W.heap.size, 1, none⟩ (.int .i64 0)) := ((pw_below HVB.out nq).setCell HQB.out _).setCell HQB.out _
      generalize ((V.drewN nq).setCell ⟨W.heap.size, 0, none⟩ (.int .i64 0)).setCell ⟨W.heap.size, 1, none⟩ (.int .i64 0) = Y at hz hb ⊢
      have z0 := (blk_cell hz 0).trans rfl
      have z1 := (blk_cell hz 1).trans rfl
      exact bodyPost_ret (v := .tuple #[.agg #[.int .i64 0, .int .i64 0], .int .i64 c]) (by simp [results, Tryd.results72, go_sem, z0, z1]) rfl ⟨rfl, hb⟩
    | false =>
      go_quiet (fail)
      go_wp2
      have hz : (((((V.drewN nq).setCell ⟨g, 0, none⟩ (.int .i64 0)).setCell ⟨g, 1, none⟩ (.int .i64 0)).setCell ⟨W.heap.size, 0, none⟩ (.int .i64 0)).setCell ⟨W.heap.size, 1, none⟩ (.int .i64 0)).heap[W.heap.size]? = some (.cells #[.int .i64 0, .int .i64 0] 38 (0, 0)) := by simpa using blk_set (blk_set ((Below.heap_setCell _ _ _ _ (Ne.symm hneg)).trans ((Below.heap_setCell _ _ _ _ (Ne.symm hneg)).trans (blk_drewN HV2.out nq))) 0 (.int .i64 0)) 1 (.int .i64 0)
      have hb : Below g W (((((V.drewN nq).setCell ⟨g, 0, none⟩ (.int .i64 0)).setCell ⟨g, 1, none⟩ (.int .i64 0)).setCell ⟨W.heap.size, 0, none⟩ (.int .i64 0)).setCell ⟨W.heap.size, 1, none⟩ (.int .i64 0)) := ((((pw_below HVB.out nq).setCell (Nat.le_refl _) _).setCell (Nat.le_refl _) _).setCell HQB.out _).setCell HQB.out _
      generalize ((((V.drewN nq).setCell ⟨g, 0, none⟩ (.int .i64 0)).setCell ⟨g, 1, none⟩ (.int .i64 0)).setCell ⟨W.heap.size, 0, none⟩ (.int .i64 0)).setCell ⟨W.heap.size, 1, none⟩ (.int .i64 0) = Y at hz hb ⊢
      have z0 := (blk_cell hz 0).trans rfl
      have z1 := (blk_cell hz 1).trans rfl
      exact bodyPost_ret (v := .tuple #[.agg #[.int .i64 0, .int .i64 0], .int .i64 c]) (by simp [results, Tryd.results72, go_sem, z0, z1]) rfl ⟨rfl, hb⟩

set_option maxRecDepth 100000 in
set_option maxHeartbeats 8000000 in
theorem does_spends (w0 : World) (g : Nat) (a b n x y c p q : Int) (W : World) (hres : (c = 0 ∧ p = x ∧ q = y) ∨ (c ≠ 0 ∧ p = 0 ∧ q = 0)) (hL0 : Laid w0) (hb0 : Below w0.heap.size w0 W) (hgb : w0.heap.size ≤ g)
    (hg : W.heap[g]? = some (.cells #[.int .i64 a, .int .i64 b] 96 (0, 0))) (hr : (addF a b).2 = 0)
    (HM : ∀ W1, Below w0.heap.size w0 W1 → W1.heap[g]? = some (.cells #[.int .i64 a, .int .i64 b] 96 (0, 0)) → Calls Tryd.prog 73 #[.pointer (some ⟨g, 0, none⟩), .int .i64 n] W1 fun e W' => e = .returned (.int .i64 c) ∧ Left2 g x y W1 W') :
    Calls Tryd.prog 72 #[.pointer (some ⟨g, 0, none⟩), .func (.func 73) #[.pointer (some ⟨g, 0, none⟩)] #[], .int .i64 n] W fun e W' => e = .returned (.tuple #[.agg #[.int .i64 p, .int .i64 q], .int .i64 c]) ∧ Below g W W' := by
  have HR := Aside0.mk (fun (w' : World) (hb : Below w0.heap.size w0 w') => accounts_purse_isRight.calls a b true w' (Laid_below hL0 hb) (by simp [accounts_purse_isRight.f, money_Add.f, hr]))
  have HG := Aside0.mk hg
  have HB0 := Aside0.mk hb0
  have HMM := Aside0.mk HM
  have HRES := Aside0.mk hres
  clear hres
  have c0 := (blk_cell hg 0).trans rfl
  have c1 := (blk_cell hg 1).trans rfl
  have hgl : g < W.heap.size := (Array.getElem?_eq_some_iff.1 hg).1
  have HGL := Aside0.mk hgl
  clear hL0 hb0 hg hr HM
  have hu58 := Tryd.underlying96
  have hu23 := Tryd.underlying38
  go_enter Tryd.func72, Tryd.ntmps72
  go_upto_region 5 with (first
    | (go_at_call 88; refine (HR.out _ (below_alloc HB0.out _)).mono ?_; rintro e w1 ⟨rfl, hb⟩; have hq := (hb.block _ (by simp)).trans (MapKept.heap_alloc W _).1; have hg1 := (hb.block g (by have := HGL.out; simp; omega)).trans (alloc_old _ HG.out); have HQ := Aside0.mk hq; have HG1 := Aside0.mk hg1; have HB1 := Aside0.mk (below_then (below_alloc (Below.refl W.heap.size W) _) (by simp) hb); clear hb hq hg1)
    | (go_at_call 73; refine (HMM.out _ (HB0.out.trans (HB1.out.mono (by have := HB0.out.size; omega))) HG1.out).mono ?_; rintro e w2 ⟨rfl, hl2⟩; have HL2 := Aside0.mk hl2; clear hl2))
  have hst : StepZ (fun k => k = g) w1 w2 := HL2.out.2
  have hqq := hst.at_ HQ.out (by show ¬ W.heap.size = g; have := HGL.out; omega)
  have hv1 := alloc_old (.cells #[.int .i64 0, .int .i64 0] 38) HL2.out.1
  have hv2 := alloc_old (.cells #[.int .i64 0, .int .i64 0] 38) hqq
  have hv3 := (MapKept.heap_alloc w2 (.cells #[.int .i64 0, .int .i64 0] 38)).1
  have hlt2 : W.heap.size < w2.heap.size := (Array.getElem?_eq_some_iff.1 hqq).1
  have hbw : Below g W (w2.alloc (.cells #[.int .i64 0, .int .i64 0] 38)) := ((HB1.out.mono (Nat.le_of_lt hgl)).trans (hst.below (by have := HB1.out.size; omega) (fun k hk => by omega))).alloc (by omega) _
  have HQB := Aside0.mk (show g ≤ W.heap.size from Nat.le_of_lt hgl)
  have hneg : g ≠ W.heap.size := by omega
  clear hst hqq c0 c1 hgl
  generalize w2.alloc (.cells #[.int .i64 0, .int .i64 0] 38) = V at *
  have g0 := (blk_cell hv1 0).trans rfl
  have g1 := (blk_cell hv1 1).trans rfl
  have k0 := blk_frozen hv1 0
  have k1 := blk_frozen hv1 1
  have q0 := (blk_cell hv2 0).trans rfl
  have q1 := (blk_cell hv2 1).trans rfl
  have f0 := blk_frozen hv2 0
  have f1 := blk_frozen hv2 1
  have r0 := (blk_cell hv3 0).trans rfl
  have r1 := (blk_cell hv3 1).trans rfl
  have HV1 := Aside0.mk hv1
  have HV2 := Aside0.mk hv2
  have HVB := Aside0.mk hbw
  clear hv1 hv2 hv3 hbw
  have hres := HRES.out
  clear HRES
  rcases hres with ⟨rfl, rfl, rfl⟩ | ⟨hc, rfl, rfl⟩
  · go_quiet (fail)
    go_wp2
    have hz : (((V.drewN nq).setCell ⟨W.heap.size, 0, none⟩ (.int .i64 p)).setCell ⟨W.heap.size, 1, none⟩ (.int .i64 q)).heap[W.heap.size]? = some (.cells #[.int .i64 p, .int .i64 q] 38 (0, 0)) := by simpa using blk_set (blk_set (blk_drewN HV2.out nq) 0 (.int .i64 p)) 1 (.int .i64 q)
    have hb : Below g W (((V.drewN nq).setCell ⟨W.heap.size, 0, none⟩ (.int .i64 p)).setCell ⟨W.heap.size, 1, none⟩ (.int .i64 q)) := ((pw_below HVB.out nq).setCell HQB.out _).setCell HQB.out _
    generalize ((V.drewN nq).setCell ⟨W.heap.size, 0, none⟩ (.int .i64 p)).setCell ⟨W.heap.size, 1, none⟩ (.int .i64 q) = Y at hz hb ⊢
    have z0 := (blk_cell hz 0).trans rfl
    have z1 := (blk_cell hz 1).trans rfl
    exact bodyPost_ret (v := .tuple #[.agg #[.int .i64 p, .int .i64 q], .int .i64 0]) (by simp [results, Tryd.results72, go_sem, z0, z1]) rfl ⟨rfl, hb⟩
  · have hc' : (c != 0) = true := bne_iff_ne.mpr hc
    clear hc
    cases hxy : (x == 0 && y == 0) with
    | true =>
      obtain ⟨rfl, rfl⟩ : x = 0 ∧ y = 0 := by simpa using hxy
      go_quiet (fail)
      go_wp2
      have hz : (((V.drewN nq).setCell ⟨W.heap.size, 0, none⟩ (.int .i64 0)).setCell ⟨W.heap.size, 1, none⟩ (.int .i64 0)).heap[W.heap.size]? = some (.cells #[.int .i64 0, .int .i64 0] 38 (0, 0)) := by simpa using blk_set (blk_set (blk_drewN HV2.out nq) 0 (.int .i64 0)) 1 (.int .i64 0)
      have hb : Below g W (((V.drewN nq).setCell ⟨W.heap.size, 0, none⟩ (.int .i64 0)).setCell ⟨W.heap.size, 1, none⟩ (.int .i64 0)) := ((pw_below HVB.out nq).setCell HQB.out _).setCell HQB.out _
      generalize ((V.drewN nq).setCell ⟨W.heap.size, 0, none⟩ (.int .i64 0)).setCell ⟨W.heap.size, 1, none⟩ (.int .i64 0) = Y at hz hb ⊢
      have z0 := (blk_cell hz 0).trans rfl
      have z1 := (blk_cell hz 1).trans rfl
      exact bodyPost_ret (v := .tuple #[.agg #[.int .i64 0, .int .i64 0], .int .i64 c]) (by simp [results, Tryd.results72, go_sem, z0, z1]) rfl ⟨rfl, hb⟩
    | false =>
      go_quiet (fail)
      go_wp2
      have hz : (((((V.drewN nq).setCell ⟨g, 0, none⟩ (.int .i64 0)).setCell ⟨g, 1, none⟩ (.int .i64 0)).setCell ⟨W.heap.size, 0, none⟩ (.int .i64 0)).setCell ⟨W.heap.size, 1, none⟩ (.int .i64 0)).heap[W.heap.size]? = some (.cells #[.int .i64 0, .int .i64 0] 38 (0, 0)) := by simpa using blk_set (blk_set ((Below.heap_setCell _ _ _ _ (Ne.symm hneg)).trans ((Below.heap_setCell _ _ _ _ (Ne.symm hneg)).trans (blk_drewN HV2.out nq))) 0 (.int .i64 0)) 1 (.int .i64 0)
      have hb : Below g W (((((V.drewN nq).setCell ⟨g, 0, none⟩ (.int .i64 0)).setCell ⟨g, 1, none⟩ (.int .i64 0)).setCell ⟨W.heap.size, 0, none⟩ (.int .i64 0)).setCell ⟨W.heap.size, 1, none⟩ (.int .i64 0)) := ((((pw_below HVB.out nq).setCell (Nat.le_refl _) _).setCell (Nat.le_refl _) _).setCell HQB.out _).setCell HQB.out _
      generalize ((((V.drewN nq).setCell ⟨g, 0, none⟩ (.int .i64 0)).setCell ⟨g, 1, none⟩ (.int .i64 0)).setCell ⟨W.heap.size, 0, none⟩ (.int .i64 0)).setCell ⟨W.heap.size, 1, none⟩ (.int .i64 0) = Y at hz hb ⊢
      have z0 := (blk_cell hz 0).trans rfl
      have z1 := (blk_cell hz 1).trans rfl
      exact bodyPost_ret (v := .tuple #[.agg #[.int .i64 0, .int .i64 0], .int .i64 c]) (by simp [results, Tryd.results72, go_sem, z0, z1]) rfl ⟨rfl, hb⟩

end Go.Proofs.YtoclldkgkmhgaaaDoor.K

namespace Go.Proofs.YtoclldkgkmhgaaaDoor.K
open Go.RowKit Go.Proofs.YtoclldkgkmhgaaaDoor.Rng Go.Proofs.YtoclldkgkmhgaaaDoorW.PrintWords Go.Proofs.YtoclldkgkmhgaaaDoorW.PrintLast Go.Proofs.YtoclldkgkmhgaaaDoorW.PrintMore
set_option linter.unusedVariables false
set_option linter.unusedSimpArgs false

def doesF (a b x y c : Int) : Int × Int × Int := if (addF a b).2 = 0 then (if c = 0 then (x, y, 0) else (0, 0, c)) else (0, 0, 130)
def earnF (a b n : Int) : Int × Int × Int := doesF a b (addF a n).1 b (if (addF a n).2 = 0 then (addF (addF a n).1 b).2 else (addF a n).2)
def spendF (a b n : Int) : Int × Int × Int := doesF a b (subF a n).1 b (subF a n).2
def accounts_Earn.f (a0_0 : Int) (a0_1 : Int) (a1 : Int) : Option (Int × Int × Int) := some (earnF a0_0 a0_1 a1)
def accounts_Spend.f (a0_0 : Int) (a0_1 : Int) (a1 : Int) : Option (Int × Int × Int) := some (spendF a0_0 a0_1 a1)

theorem spends_does (w0 : World) (g : Nat) (a b n : Int) (W : World) (hL0 : Laid w0) (hb0 : Below w0.heap.size w0 W) (hgb : w0.heap.size ≤ g) (hg : W.heap[g]? = some (.cells #[.int .i64 a, .int .i64 b] 96 (0, 0))) :
    Calls Tryd.prog 72 #[.pointer (some ⟨g, 0, none⟩), .func (.func 73) #[.pointer (some ⟨g, 0, none⟩)] #[], .int .i64 n] W fun e W' => e = .returned (.tuple #[.agg #[.int .i64 (spendF a b n).1, .int .i64 (spendF a b n).2.1], .int .i64 (spendF a b n).2.2]) ∧ Below g W W' := by
  unfold spendF doesF
  by_cases hr : (addF a b).2 = 0
  · rw [if_pos hr]
    obtain ⟨⟨x, c⟩, h⟩ : ∃ r, subF a n = r := ⟨_, rfl⟩
    simp only [h]
    refine (does_spends w0 g a b n x b c (if c = 0 then (x, b, (0 : Int)) else (0, 0, c)).1 (if c = 0 then (x, b, (0 : Int)) else (0, 0, c)).2.1 W ?_ hL0 hb0 hgb hg hr (fun W1 hb hg => spends_calls g a b n x c W1 (Laid_below hL0 hb) hg h)).mono ?_
    rotate_right
    · rintro e W' ⟨rfl, hb⟩
      refine ⟨?_, hb⟩
      split
      · rename_i hc; rw [hc]
      · rfl
    · split
      · rename_i hc; exact .inl ⟨hc, rfl, rfl⟩
      · rename_i hc; exact .inr ⟨hc, rfl, rfl⟩
  · rw [if_neg hr]
    exact does_no _ w0 g a b n W hL0 hb0 hgb hg hr

set_option maxHeartbeats 4000000 in
theorem accounts_Spend.calls (a0_0 : Int) (a0_1 : Int) (a1 : Int) (r1 : Int) (r2 : Int) (r3 : Int) (w : World) (hL : Laid w) (h : accounts_Spend.f a0_0 a0_1 a1 = some (r1, r2, r3)) :
    Calls Tryd.prog 51 #[.agg #[.int .i64 a0_0, .int .i64 a0_1], .int .i64 a1] w fun e w' => e = .returned (.tuple #[.agg #[.int .i64 r1, .int .i64 r2], .int .i64 r3]) ∧ Below w.heap.size w w' := by
  have e1 : spendF a0_0 a0_1 a1 = (r1, r2, r3) := Option.some.inj h
  have HD := Aside0.mk (fun (W : World) (g : Nat) (hb : Below w.heap.size w W) (hg : w.heap.size ≤ g) hh => spends_does w g a0_0 a0_1 a1 W hL hb hg hh)
  rw [e1] at HD
  clear h e1
  have hu58 := Tryd.underlying96
  have hu23 := Tryd.underlying38
  go_enter Tryd.func51, Tryd.ntmps51
  go_wp2_with (go_at_call 72; refine (HD.out _ (w.heap.size + 1 + 1) (below_alloc (below_alloc (below_alloc (Below.refl _ _) _) _) _) (by omega) (by have := (MapKept.heap_alloc ((w.alloc (.cells #[.int .i64 a0_0, .int .i64 a0_1] 38)).alloc (.cells #[.int .i64 0, .int .i64 0] 38)) (.cells #[.int .i64 a0_0, .int .i64 a0_1] 96)).1; simpa using this)).mono ?_; rintro e w1 ⟨rfl, hb⟩; have hq := (hb.block (w.heap.size + 1) (by omega)).trans (alloc_old _ (alloc2_new w (.cells #[.int .i64 a0_0, .int .i64 a0_1] 38) (.cells #[.int .i64 0, .int .i64 0] 38))); have q0 := (blk_cell hq 0).trans rfl; have q1 := (blk_cell hq 1).trans rfl; have f0 := blk_frozen hq 0; have f1 := blk_frozen hq 1; have HQ := Aside0.mk hq; have HB1 := Aside0.mk ((below_alloc (below_alloc (below_alloc (Below.refl w.heap.size w) (.cells #[.int .i64 a0_0, .int .i64 a0_1] 38)) (.cells #[.int .i64 0, .int .i64 0] 38)) (.cells #[.int .i64 a0_0, .int .i64 a0_1] 96)).trans (hb.mono (show w.heap.size ≤ w.heap.size + 1 + 1 by omega))); clear hb hq)
  have hz : ((w1.setCell ⟨w.heap.size + 1, 0, none⟩ (.int .i64 r1)).setCell ⟨w.heap.size + 1, 1, none⟩ (.int .i64 r2)).heap[w.heap.size + 1]? = some (.cells #[.int .i64 r1, .int .i64 r2] 38 (0, 0)) := by simpa using blk_set (blk_set HQ.out 0 (.int .i64 r1)) 1 (.int .i64 r2)
  have hb : Below w.heap.size w ((w1.setCell ⟨w.heap.size + 1, 0, none⟩ (.int .i64 r1)).setCell ⟨w.heap.size + 1, 1, none⟩ (.int .i64 r2)) := (HB1.out.setCell (Nat.le_succ _) _).setCell (Nat.le_succ _) _
  generalize (w1.setCell ⟨w.heap.size + 1, 0, none⟩ (.int .i64 r1)).setCell ⟨w.heap.size + 1, 1, none⟩ (.int .i64 r2) = Y at hz hb ⊢
  have z0 := (blk_cell hz 0).trans rfl
  have z1 := (blk_cell hz 1).trans rfl
  exact bodyPost_ret (v := .tuple #[.agg #[.int .i64 r1, .int .i64 r2], .int .i64 r3]) (by simp [results, Tryd.results51, go_sem, z0, z1]) rfl ⟨rfl, hb⟩
theorem earns_does (w0 : World) (g : Nat) (a b n : Int) (W : World) (hL0 : Laid w0) (hb0 : Below w0.heap.size w0 W) (hgb : w0.heap.size ≤ g) (hg : W.heap[g]? = some (.cells #[.int .i64 a, .int .i64 b] 96 (0, 0))) :
    Calls Tryd.prog 72 #[.pointer (some ⟨g, 0, none⟩), .func (.func 82) #[.pointer (some ⟨g, 0, none⟩)] #[], .int .i64 n] W fun e W' => e = .returned (.tuple #[.agg #[.int .i64 (earnF a b n).1, .int .i64 (earnF a b n).2.1], .int .i64 (earnF a b n).2.2]) ∧ Below g W W' := by
  unfold earnF doesF
  by_cases hr : (addF a b).2 = 0
  · rw [if_pos hr]
    obtain ⟨⟨x, c⟩, h⟩ : ∃ r, addF a n = r := ⟨_, rfl⟩
    obtain ⟨⟨y, d⟩, h2⟩ : ∃ r, addF x b = r := ⟨_, rfl⟩
    simp only [h, h2]
    obtain ⟨C, hC⟩ : ∃ C, (if c = 0 then d else c) = C := ⟨_, rfl⟩
    simp only [hC]
    refine (does_earns w0 g a b n x b C (if C = 0 then (x, b, (0 : Int)) else (0, 0, C)).1 (if C = 0 then (x, b, (0 : Int)) else (0, 0, C)).2.1 W ?_ hL0 hb0 hgb hg hr (fun W1 hb hg => by have := earns_calls w0 g a b n x c y d W1 hL0 hb hgb hg h h2; rw [hC] at this; exact this)).mono ?_
    rotate_right
    · rintro e W' ⟨rfl, hb⟩
      refine ⟨?_, hb⟩
      split
      · rename_i hc; rw [hc]
      · rfl
    · split
      · rename_i hc; exact .inl ⟨hc, rfl, rfl⟩
      · rename_i hc; exact .inr ⟨hc, rfl, rfl⟩
  · rw [if_neg hr]
    exact does_no _ w0 g a b n W hL0 hb0 hgb hg hr

set_option maxHeartbeats 4000000 in
theorem accounts_Earn.calls (a0_0 : Int) (a0_1 : Int) (a1 : Int) (r1 : Int) (r2 : Int) (r3 : Int) (w : World) (hL : Laid w) (h : accounts_Earn.f a0_0 a0_1 a1 = some (r1, r2, r3)) :
    Calls Tryd.prog 59 #[.agg #[.int .i64 a0_0, .int .i64 a0_1], .int .i64 a1] w fun e w' => e = .returned (.tuple #[.agg #[.int .i64 r1, .int .i64 r2], .int .i64 r3]) ∧ Below w.heap.size w w' := by
  have e1 : earnF a0_0 a0_1 a1 = (r1, r2, r3) := Option.some.inj h
  have HD := Aside0.mk (fun (W : World) (g : Nat) (hb : Below w.heap.size w W) (hg : w.heap.size ≤ g) hh => earns_does w g a0_0 a0_1 a1 W hL hb hg hh)
  rw [e1] at HD
  clear h e1
  have hu58 := Tryd.underlying96
  have hu23 := Tryd.underlying38
  go_enter Tryd.func59, Tryd.ntmps59
  go_wp2_with (go_at_call 72; refine (HD.out _ (w.heap.size + 1 + 1) (below_alloc (below_alloc (below_alloc (Below.refl _ _) _) _) _) (by omega) (by have := (MapKept.heap_alloc ((w.alloc (.cells #[.int .i64 a0_0, .int .i64 a0_1] 38)).alloc (.cells #[.int .i64 0, .int .i64 0] 38)) (.cells #[.int .i64 a0_0, .int .i64 a0_1] 96)).1; simpa using this)).mono ?_; rintro e w1 ⟨rfl, hb⟩; have hq := (hb.block (w.heap.size + 1) (by omega)).trans (alloc_old _ (alloc2_new w (.cells #[.int .i64 a0_0, .int .i64 a0_1] 38) (.cells #[.int .i64 0, .int .i64 0] 38))); have q0 := (blk_cell hq 0).trans rfl; have q1 := (blk_cell hq 1).trans rfl; have f0 := blk_frozen hq 0; have f1 := blk_frozen hq 1; have HQ := Aside0.mk hq; have HB1 := Aside0.mk ((below_alloc (below_alloc (below_alloc (Below.refl w.heap.size w) (.cells #[.int .i64 a0_0, .int .i64 a0_1] 38)) (.cells #[.int .i64 0, .int .i64 0] 38)) (.cells #[.int .i64 a0_0, .int .i64 a0_1] 96)).trans (hb.mono (show w.heap.size ≤ w.heap.size + 1 + 1 by omega))); clear hb hq)
  have hz : ((w1.setCell ⟨w.heap.size + 1, 0, none⟩ (.int .i64 r1)).setCell ⟨w.heap.size + 1, 1, none⟩ (.int .i64 r2)).heap[w.heap.size + 1]? = some (.cells #[.int .i64 r1, .int .i64 r2] 38 (0, 0)) := by simpa using blk_set (blk_set HQ.out 0 (.int .i64 r1)) 1 (.int .i64 r2)
  have hb : Below w.heap.size w ((w1.setCell ⟨w.heap.size + 1, 0, none⟩ (.int .i64 r1)).setCell ⟨w.heap.size + 1, 1, none⟩ (.int .i64 r2)) := (HB1.out.setCell (Nat.le_succ _) _).setCell (Nat.le_succ _) _
  generalize (w1.setCell ⟨w.heap.size + 1, 0, none⟩ (.int .i64 r1)).setCell ⟨w.heap.size + 1, 1, none⟩ (.int .i64 r2) = Y at hz hb ⊢
  have z0 := (blk_cell hz 0).trans rfl
  have z1 := (blk_cell hz 1).trans rfl
  exact bodyPost_ret (v := .tuple #[.agg #[.int .i64 r1, .int .i64 r2], .int .i64 r3]) (by simp [results, Tryd.results59, go_sem, z0, z1]) rfl ⟨rfl, hb⟩
end Go.Proofs.YtoclldkgkmhgaaaDoor.K

namespace Go.Proofs.YtoclldkgkmhgaaaDoor.Pure
open Go.RowKit Go.Proofs.YtoclldkgkmhgaaaDoor.K
set_option linter.unusedVariables false
set_option linter.unusedSimpArgs false
end Go.Proofs.YtoclldkgkmhgaaaDoor.Pure

namespace Go.Proofs.YtoclldkgkmhgaaaDoor.K
open Go.RowKit Go.MapKept Go.Proofs.YtoclldkgkmhgaaaDoor.Rng Go.Proofs.YtoclldkgkmhgaaaDoorW.PrintWords Go.Proofs.YtoclldkgkmhgaaaDoorW.PrintLast Go.Proofs.YtoclldkgkmhgaaaDoorW.PrintMore
set_option linter.unusedVariables false
set_option linter.unusedSimpArgs false
attribute [local go_sem] Oper.semAt_some

/-- The block that a slice's address lies in. -/
def Holds (A : Option Addr) (b : Nat) : Prop := ∃ a, A = some a ∧ b = a.block

set_option maxRecDepth 100000 in
set_option maxHeartbeats 2000000 in
theorem purses1 (F : Fence) (n : Nat) (hF : F.fn 102) (hro : F.round = none) (hn : 1 ≤ n) (B : Nat) (A : Option Addr) (c : Nat) (xs : List S38) (w : World) (hlen : xs.length ≤ 100) (hc : xs.length ≤ c)
    (hB : w.heap[B]? = some (.cells #[.slice A xs.length c] 120 (0, 0))) (hC : Kd.C k38 w A xs.length xs) :
    SeqL F n Tryd.prog 102 #[.pointer (some ⟨B, 0, none⟩)] (fun k => #[.agg #[.int .i64 (xs.getD k z38).f0, .int .i64 (xs.getD k z38).f1]]) xs.length (fun _ b => b = B ∨ (Holds A b ∧ 0 < xs.length)) (fun _ _ => False) w := by
  intro l J Jx W hW hJ hJx hY h0
  have eB : W.heap[B]? = some (.cells #[.slice A xs.length c] 120 (0, 0)) := (hW.block _ (Array.getElem?_eq_some_iff.1 hB).1).trans hB
  have eC : Kd.C k38 W A xs.length xs := Kd.C_below hC hW
  have cB : W.cell? ⟨B, 0, none⟩ = some (.slice A xs.length c) := (blk_cell eB 0).trans rfl
  clear hB hC hW
  refine callsIn_of_wp Tryd.func102 rfl hF ?_ hro
  simp only [Tryd.ntmps102, List.size_toArray, List.length_cons, List.length_nil, Nat.reduceAdd, Nat.reduceSub, Array.replicate_succ, Array.replicate_zero, List.push_toArray, List.append_toArray, List.nil_append, List.cons_append]
  have hu23 := Tryd.underlying38
  have hu58 := Tryd.underlying96
  gi_wp2
  gi_loopw [7] (fun i wr => ∃ (k : Nat), k ≤ xs.length ∧ i = .int .i64 k ∧ J k wr ∧ Hid (∀ b, Holds A b → wr.heap[b]? = W.heap[b]?))
    (fun i _ => xs.length - (intOf i).toNat)
  case atStart => exact ⟨0, Nat.zero_le _, rfl, h0, (fun _ _ => rfl : ∀ b, Holds A b → _)⟩
  case round =>
    obtain ⟨k, hk, rfl, hJk, HS⟩ := hrel
    by_cases hlt : k < xs.length
    · obtain ⟨ad, rfl, r0, r1⟩ := at_T38 eC k (by omega) (by omega)
      have hblk := HS.out ad.block ⟨ad, rfl, rfl⟩
      have hpb : (ad.add (k * 2)).block = ad.block := by unfold Addr.add; split <;> rfl
      rw [Int.toNat_natCast] at r0 r1
      have q0 := (World.cell?_of_block (w := W) (w' := wr) (a := ad.add (k * 2)) (by rw [hpb]; exact hblk)).trans r0
      have q1 := (World.cell?_of_block (w := W) (w' := wr) (a := ⟨(ad.add (k * 2)).block, (ad.add (k * 2)).off + 1, none⟩) (by show wr.heap[(ad.add (k * 2)).block]? = _; rw [hpb]; exact hblk)).trans r1
      have hx : rd_T38 xs k = xs.getD k z38 := by unfold rd_T38; rw [Int.toNat_natCast]
      rw [hx] at q0 q1
      rw [hpb] at q1
      obtain ⟨fn, tmps, assign, body, hy, hR⟩ := hY k (wr.alloc (.cells #[.int .i64 (xs.getD k z38).f0, .int .i64 (xs.getD k z38).f1] 38)) hlt (hJ k _ _ hJk (StepZ.alloc _ _ _))
      have HQ := Aside0.mk hblk
      have hlw : ad.block < wr.heap.size := by
        have := cell_lt q0
        rw [hpb] at this
        exact this
      clear r0 r1 hx eC
      generalize xs.getD k z38 = z at *
      gi_wp2
      refine hR.mono ?_
      rintro e W3 (⟨rfl, hJ3, hk3⟩ | ⟨rfl, hJx3, hk3⟩)
      · have hb3 : W3.heap[ad.block]? = W.heap[ad.block]? := by
          have e1 : (wr.alloc (.cells #[.int .i64 z.f0, .int .i64 z.f1] 38)).heap[ad.block]? = wr.heap[ad.block]? := Below.heap_alloc _ _ _ hlw
          rw [← HQ.out, ← e1]
          exact hk3.block _ (by simp; omega) (fun h => h (.inr ⟨⟨ad, rfl, rfl⟩, by omega⟩))
        have HB3 := Aside0.mk hb3
        clear hb3 hk3 q0 q1 hblk
        gi_wp2
        go_roundw
        case rel => exact ⟨k + 1, by omega, by simp, hJ3, (by rintro b ⟨a, ha, rfl⟩; cases ha; exact HB3.out : ∀ b, Holds (some ad) b → _)⟩
        case measure => simp [intOf]; omega
      · gi_wp2
        refine bodyPost_ret (results_none rfl _ _ _) rfl ?_
        exact ⟨⟨_, rfl⟩, .inr ⟨k, hlt, hJx3⟩⟩
    · obtain rfl : k = xs.length := by omega
      gi_wp2
      go_end0
      exact ⟨⟨_, rfl⟩, .inl hJk⟩
end Go.Proofs.YtoclldkgkmhgaaaDoor.K

namespace Go.Proofs.YtoclldkgkmhgaaaDoor.K
open Go.RowKit Go.MapKept Go.Proofs.YtoclldkgkmhgaaaDoor.Rng Go.Proofs.YtoclldkgkmhgaaaDoorW.PrintWords Go.Proofs.YtoclldkgkmhgaaaDoorW.PrintLast Go.Proofs.YtoclldkgkmhgaaaDoorW.PrintMore
set_option linter.unusedVariables false
set_option linter.unusedSimpArgs false
attribute [local go_sem] Oper.semAt_some

def okS (x : S38) : Bool := (addF x.f0 x.f1).2 == 0
theorem okS_calls (x : S38) (W : World) (hL : Laid W) :
    Calls Tryd.prog 88 #[.agg #[.int .i64 x.f0, .int .i64 x.f1]] W fun e w' => e = .returned (.bool (okS x)) ∧ Below W.heap.size W w' :=
  accounts_purse_isRight.calls x.f0 x.f1 _ W hL (by simp [accounts_purse_isRight.f, money_Add.f, okS])

theorem purses_calls (A : Option Addr) (n c : Nat) (w : World) :
    Calls Tryd.prog 95 #[.slice A n c] w fun e w' => e = .returned (.func (.func 102) #[] #[.pointer (some ⟨w.heap.size, 0, none⟩)]) ∧ w' = w.alloc (.cells #[.slice A n c] 120) := by
  have hmf : ∀ (fn : Fn) (first cap : Array Value) (w : World), (Instr.makeFunc fn first cap).run Tryd.prog w = .ok (.func fn first cap) w := fun _ _ _ _ => rfl
  go_enter Tryd.func95, Tryd.ntmps95
  go_wp2
  go_ret
  exact ⟨rfl, rfl⟩

set_option maxRecDepth 100000 in
set_option maxHeartbeats 4000000 in
theorem are_walk (A : Option Addr) (c : Nat) (xs : List S38) (w : World) (hL : Laid w) (hC : Kd.C k38 w A xs.length xs) (hc : xs.length ≤ c) (hlen : xs.length ≤ 100) (r : Bool) (hr : xs.all okS = r) :
    Calls Tryd.prog 85 #[.slice A xs.length c] w fun e w' => e = .returned (.bool r) ∧ Below w.heap.size w w' := by
  have HL := Aside0.mk hL
  have HR := Aside0.mk hr
  have HN := Aside0.mk purses_calls
  have HCC := Aside0.mk hC
  have hA : ∀ b, Holds A b → 0 < xs.length → b < w.heap.size := by
    rintro b ⟨a, rfl, rfl⟩ h0
    obtain ⟨ad, ha, r0, _⟩ := at_T38 hC 0 (by omega) (by omega)
    cases ha
    have := cell_lt r0
    have hpb : (a.add ((0 : Int).toNat * 2)).block = a.block := by unfold Addr.add; split <;> rfl
    rw [hpb] at this
    exact this
  have HAA := Aside0.mk hA
  clear hr hL hA hC
  refine calls_of_wp_marks Tryd.func85 rfl ?_
  simp only [Tryd.ntmps85, List.size_toArray, List.length_cons, List.length_nil, Nat.reduceAdd, Nat.reduceSub, Array.replicate_succ, Array.replicate_zero, List.push_toArray, List.append_toArray, List.nil_append, List.cons_append]
  go_wp2_with fail
  go_step3
  go_wp2_with fail
  go_step3
  go_wp2_with (go_at_call 95; refine (HN.out _ _ _ _).mono ?_; rintro e w2 ⟨rfl, rfl⟩)
  have hX1 := alloc_old (.cells #[.slice A xs.length c] 120) (MapKept.heap_alloc w (.cells #[.bool true] 4)).1
  have hXs := alloc2_new w (.cells #[.bool true] 4) (.cells #[.slice A xs.length c] 120)
  have hXB := below_two w (.cells #[.bool true] 4) (.cells #[.slice A xs.length c] 120)
  have hXsz : ((w.alloc (.cells #[.bool true] 4)).alloc (.cells #[.slice A xs.length c] 120)).heap.size = w.heap.size + 2 := by simp
  generalize (w.alloc (.cells #[.bool true] 4)).alloc (.cells #[.slice A xs.length c] 120) = X at *
  have hseq := purses1 Fence.wide 9 trivial rfl (by omega) (w.heap.size + 1) A c xs X hlen hc hXs (Kd.C_below HCC.out hXB)
  have HXE := Aside0.mk hXsz
  obtain ⟨I, hIe⟩ : ∃ I : Nat → World → Prop, I = fun k W => k ≤ xs.length ∧ (xs.take k).all okS = true ∧ W.heap[w.heap.size]? = some (.cells #[.bool true] 4 (0, 0)) ∧ Below w.heap.size w W := ⟨_, rfl⟩
  obtain ⟨Ix, hXe⟩ : ∃ Ix : Code → Nat → World → Prop, Ix = fun c k W => c = .exit 0 ∧ okS (xs.getD k z38) = false ∧ W.heap[w.heap.size]? = some (.cells #[.bool false] 4 (0, 0)) ∧ Below w.heap.size w W := ⟨_, rfl⟩
  refine wp_rangeFunc_L (w := X) (gf := 102) rfl (enters_of Tryd.func102 (by kernel_rfl) rfl) hseq (Below.refl _ _) (fun _ => rfl) (fun b hb => absurd hb id) (fun b hb => by
      rcases hb with e | ⟨e, h0⟩
      · omega
      · have := HAA.out b e h0; omega) I Ix ?hI ?hIx ?h0 ?hround ?hdone ?hstop
  case hI =>
    subst hIe
    rintro k A' B ⟨hk, hal, hb1, hbel⟩ hst
    exact ⟨hk, hal, hst.at_ hb1 (by have := HXE.out; rintro (h | h) <;> omega), hbel.trans (hst.below (by have := hbel.size; omega) (fun j hj => by have := HXE.out; rintro (h | h) <;> omega))⟩
  case hIx =>
    subst hXe
    rintro c k A' B ⟨hk, hz, hb1, hbel⟩ hst
    exact ⟨hk, hz, hst.at_ hb1 (by have := HXE.out; rintro (h | h) <;> omega), hbel.trans (hst.below (by have := hbel.size; omega) (fun j hj => by have := HXE.out; rintro (h | h) <;> omega))⟩
  case h0 =>
    subst hIe
    exact ⟨by omega, by simp, alloc_old _ (alloc_old _ hX1), below_alloc (below_alloc hXB _) _⟩
  case hdone =>
    subst hIe hXe
    rintro W ⟨_, hal, hb1, hbel⟩ hsz hD
    have c1 : W.cell? ⟨w.heap.size, 0, none⟩ = some (.bool true) := (blk_cell hb1 0).trans rfl
    rw [List.take_length] at hal
    obtain rfl : r = true := HR.out.symm.trans hal
    clear hb1 hseq hX1 hXs
    go_wp2
    try rw [Exit.noGoto_ret]
    refine leave_marked hD (v := .bool true) (by simp [results, Tryd.results85, go_sem]) ⟨rfl, ?_⟩
    exact hbel.trans ((StepZ.putObj (Z := fun b => b = X.heap.size) _ (.deferred none) rfl).below (by have := hbel.size; omega) (fun k hk => by have := HXE.out; omega))
  case hstop =>
    subst hIe hXe
    rintro c k W hk ⟨rfl, hz, hb1, hbel⟩ hsz hD
    have c1 : W.cell? ⟨w.heap.size, 0, none⟩ = some (.bool false) := (blk_cell hb1 0).trans rfl
    obtain rfl : r = false := HR.out.symm.trans (by
      rw [List.all_eq_false]
      refine ⟨xs[k], List.getElem_mem hk, ?_⟩
      rw [List.getD_eq_getElem?_getD, List.getElem?_eq_getElem hk] at hz
      simpa using hz)
    clear hb1 hseq hX1 hXs
    go_wp2
    try rw [Exit.noGoto_ret]
    refine leave_marked hD (v := .bool false) (by simp [results, Tryd.results85, go_sem]) ⟨rfl, ?_⟩
    exact hbel.trans ((StepZ.putObj (Z := fun b => b = X.heap.size) _ (.deferred none) rfl).below (by have := hbel.size; omega) (fun k hk => by have := HXE.out; omega))
  case hround =>
    intro k W hk hi hsz
    clear hseq hX1 hXs
    rw [hIe] at hi
    have HIE := Aside0.mk hIe
    have HXX := Aside0.mk hXe
    clear hIe hXe
    have hx0 : xs[k] = xs.getD k z38 := by rw [List.getD_eq_getElem?_getD, List.getElem?_eq_getElem hk]; rfl
    have HX0 := Aside0.mk hx0
    clear hx0
    obtain ⟨z, hzz⟩ : ∃ z, xs.getD k z38 = z := ⟨_, rfl⟩
    rw [hzz] at HX0
    rw [show (#[.agg #[.int .i64 (xs.getD k z38).f0, .int .i64 (xs.getD k z38).f1]] : Array Value) = #[.agg #[.int .i64 z.f0, .int .i64 z.f1]] from by rw [hzz]]
    have HZZ := Aside0.mk hzz
    clear hzz
    have hu58 := Tryd.underlying96
    have hu23 := Tryd.underlying38
    gi_wp2
    refine ⟨StepZ.alloc _ _ _, ?_⟩
    intro Wb hst
    obtain ⟨hk2, hal, hb1, hbel⟩ := hi
    have hp := hst.at_ (MapKept.heap_alloc W (.cells #[.int .i64 z.f0, .int .i64 z.f1] 96)).1 (by show W.heap.size ≠ X.heap.size + 1; omega)
    replace hb1 := hst.at_ (alloc_old (.cells #[.int .i64 z.f0, .int .i64 z.f1] 96) hb1) (by show w.heap.size ≠ X.heap.size + 1; have := HXE.out; omega)
    replace hbel : Below w.heap.size w Wb := (below_alloc hbel (.cells #[.int .i64 z.f0, .int .i64 z.f1] 96)).trans (hst.below (by have := hbel.size; simp; omega) (fun j hj => by show j ≠ X.heap.size + 1; have := HXE.out; omega))
    have p0 := (blk_cell hp 0).trans rfl
    have p1 := (blk_cell hp 1).trans rfl
    have hlt1 := (Array.getElem?_eq_some_iff.1 hb1).1
    have HB1 := Aside0.mk hb1
    have HBEL := Aside0.mk hbel
    have HAL := Aside0.mk hal
    have HLT1 := Aside0.mk hlt1
    have HO := Aside0.mk (okS_calls z Wb (Laid_below HL.out hbel))
    clear hst hb1 hbel hal hlt1 hp hXsz
    have hF55 : Fence.wide.fn 88 := trivial
    have d1 : 1 ≤ 8 := by decide
    have keepZ : ∀ {A' B : World}, StepZ (fun b => b = w.heap.size) A' B → StepZ (fun b => ¬ ((b = w.heap.size + 1 ∨ (Holds A b ∧ 0 < xs.length)) ∨ b = X.heap.size ∨ b = X.heap.size + 1)) A' B := fun h => h.mono (fun b _ hb => by
      subst hb
      rintro ((e | ⟨e, e0⟩) | e | e)
      · omega
      · have := HAA.out _ e e0; omega
      · have := HXE.out; omega
      · have := HXE.out; omega)
    have KZ := Aside0.mk @keepZ
    clear keepZ
    cases ho : okS z with
    | true =>
      rw [ho] at HO
      gi_wp2_with (gi_at_call 88; refine (CallsIn.inRound _ (callsIn_wide.2 HO.out)).mono ?_; rintro e w3 ⟨rfl, hb3⟩; have hb1' := (hb3.block _ HLT1.out).trans HB1.out; have d3 := (blk_cell hb1' 0).trans rfl; have f3 := blk_frozen hb1' 0; have HB3 := Aside0.mk hb1'; have HC3 := Aside0.mk hb3; have cc := (blk_cell (by simpa using blk_set hb1' 0 (.bool true) : (w3.setCell ⟨w.heap.size, 0, none⟩ (.bool true)).heap[w.heap.size]? = some (.cells #[.bool true] 4 (0, 0))) 0).trans rfl; clear hb1' hb3)
      have ST : StepZ (fun b => b = w.heap.size) Wb (w3.setCell ⟨w.heap.size, 0, none⟩ (.bool true)) := (StepZ.of_below HC3.out).trans (StepZ.setCell (Z := fun b => b = w.heap.size) _ _ rfl)
      have hbl := below_set (below_then HBEL.out HBEL.out.size HC3.out) (Nat.le_refl w.heap.size) (j := 0) (v := .bool true)
      refine ⟨KZ.out ST, ?_⟩
      rw [HIE.out]
      refine ⟨by omega, ?_, by simpa using blk_set HB3.out 0 (.bool true), hbl⟩
      rw [List.take_succ_eq_append_getElem hk, List.all_append, HAL.out, HX0.out]
      simp [ho]
    | false =>
      rw [ho] at HO
      gi_wp2_with (gi_at_call 88; refine (CallsIn.inRound _ (callsIn_wide.2 HO.out)).mono ?_; rintro e w3 ⟨rfl, hb3⟩; have hb1' := (hb3.block _ HLT1.out).trans HB1.out; have d3 := (blk_cell hb1' 0).trans rfl; have f3 := blk_frozen hb1' 0; have HB3 := Aside0.mk hb1'; have HC3 := Aside0.mk hb3; have cc := (blk_cell (by simpa using blk_set hb1' 0 (.bool false) : (w3.setCell ⟨w.heap.size, 0, none⟩ (.bool false)).heap[w.heap.size]? = some (.cells #[.bool false] 4 (0, 0))) 0).trans rfl; clear hb1' hb3)
      have ST : StepZ (fun b => b = w.heap.size) Wb (w3.setCell ⟨w.heap.size, 0, none⟩ (.bool false)) := (StepZ.of_below HC3.out).trans (StepZ.setCell (Z := fun b => b = w.heap.size) _ _ rfl)
      have hbl := below_set (below_then HBEL.out HBEL.out.size HC3.out) (Nat.le_refl w.heap.size) (j := 0) (v := .bool false)
      refine ⟨KZ.out ST, ?_⟩
      rw [HXX.out]
      exact ⟨rfl, by rw [HZZ.out]; exact ho, by simpa using blk_set HB3.out 0 (.bool false), hbl⟩

def accounts_are.f (l0 : List (S38)) : Option (Bool) := if 100 < l0.length then none else some (l0.all okS)
theorem accounts_are.calls (A0 : Option Addr) (c0 : Nat) (l0 : List (S38)) (r : Bool) (w : World) (hL : Laid w) (hr0 : Kd.C k38 w A0 l0.length l0) (hc0 : l0.length ≤ c0) (h : accounts_are.f l0 = some r) :
    Calls Tryd.prog 85 #[.slice A0 l0.length c0] w fun e w' => e = .returned (.bool r) ∧ Below w.heap.size w w' := by
  unfold accounts_are.f at h
  by_cases hs : 100 < l0.length
  · rw [if_pos hs] at h; cases h
  · rw [if_neg hs] at h
    exact are_walk A0 c0 l0 w hL hr0 hc0 (by omega) r (Option.some.inj h)
end Go.Proofs.YtoclldkgkmhgaaaDoor.K
