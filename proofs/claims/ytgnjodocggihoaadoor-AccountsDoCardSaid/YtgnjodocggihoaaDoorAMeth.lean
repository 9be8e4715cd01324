/- The methods of accounts' purse. -/
import Derived.Test.YtgnjodocggihoaaDoorMMove
import Derived.Test.YtgnjodocggihoaaDoorRng
import Derived.Deep.RegionWith
import Derived.Deep.DeepCutAuto
namespace Go.Proofs.YtgnjodocggihoaaDoor.K
open Go.RowKit Go.Proofs.YtgnjodocggihoaaDoor.Rng Go.Proofs.YtgnjodocggihoaaDoorW.PrintWords Go.Proofs.YtgnjodocggihoaaDoorW.PrintLast Go.Proofs.YtgnjodocggihoaaDoorW.PrintMore
set_option linter.unusedVariables false
set_option linter.unusedSimpArgs false

/-- What a method leaves: the purse's block holds two other numbers, no other block is touched. -/
def Left2 (g : Nat) (x y : Int) (W W' : World) : Prop := W'.heap[g]? = some (.cells #[.int .i64 x, .int .i64 y] 58 (0, 0)) ∧ StepZ (fun k => k = g) W W'

set_option maxHeartbeats 4000000 in
theorem spends_calls (g : Nat) (a b n x c : Int) (W : World) (hL : Laid W) (hg : W.heap[g]? = some (.cells #[.int .i64 a, .int .i64 b] 58 (0, 0))) (h : subF a n = (x, c)) :
    Calls Tryd.prog 50 #[.pointer (some ⟨g, 0, none⟩), .int .i64 n] W fun e W' => e = .returned (.int .i64 c) ∧ Left2 g x b W W' := by
  have HS := Aside0.mk (money_Sub.calls a n x c W hL (by unfold money_Sub.f; rw [h]))
  have HG := Aside0.mk hg
  have c0 := (blk_cell hg 0).trans rfl
  have c1 := (blk_cell hg 1).trans rfl
  clear hL h hg
  have hu58 := Tryd.underlying58
  have hu23 := Tryd.underlying23
  go_enter Tryd.func50, Tryd.ntmps50
  go_wp2_with (go_at_call 64; refine HS.out.mono ?_; rintro e w1 ⟨rfl, hb⟩; have hg1 := (hb.block _ (Array.getElem?_eq_some_iff.1 HG.out).1).trans HG.out; have d0 := (blk_cell hg1 0).trans rfl; have f0 := blk_frozen hg1 0; have HG1 := Aside0.mk hg1; have HB1 := Aside0.mk hb; clear hb hg1)
  go_ret
  exact ⟨rfl, by simpa using blk_set HG1.out 0 (.int .i64 x), (StepZ.of_below HB1.out).trans (StepZ.setCell (Z := fun k => k = g) _ _ rfl)⟩

set_option maxHeartbeats 4000000 in
theorem deposits_calls (g : Nat) (a b n x y c : Int) (W : World) (hL : Laid W) (hg : W.heap[g]? = some (.cells #[.int .i64 a, .int .i64 b] 58 (0, 0))) (h : moveF a b n = (x, y, c)) :
    Calls Tryd.prog 47 #[.pointer (some ⟨g, 0, none⟩), .int .i64 n] W fun e W' => e = .returned (.int .i64 c) ∧ Left2 g x y W W' := by
  have HS := Aside0.mk (fun (w' : World) (hb : Below W.heap.size W w') => money_Move.calls a b n x y c w' (Laid_below hL hb) (by unfold money_Move.f; rw [h]))
  have HG := Aside0.mk hg
  have c0 := (blk_cell hg 0).trans rfl
  have c1 := (blk_cell hg 1).trans rfl
  clear hL h hg
  have hu58 := Tryd.underlying58
  have hu23 := Tryd.underlying23
  go_enter Tryd.func47, Tryd.ntmps47
  go_wp2_with fail
  go_region_with (go_at_call 68; refine (HS.out _ (by repeat (first | exact Below.refl _ _ | apply below_drew1))).mono ?_; rintro e w1 ⟨rfl, hb⟩; have hg1 := (hb.block _ (Array.getElem?_eq_some_iff.1 HG.out).1).trans HG.out; have d0 := (blk_cell hg1 0).trans rfl; have f0 := blk_frozen hg1 0; have d1 := (blk_cell hg1 1).trans rfl; have f1 := blk_frozen hg1 1; have HG1 := Aside0.mk hg1; have HB1 := Aside0.mk hb; clear hb hg1)
  all_goals (go_wp2; go_ret)
  all_goals
    refine ⟨rfl, ?_, (StepZ.drew _ _).trans ((StepZ.of_below HB1.out).trans ((StepZ.setCell (Z := fun k => k = g) _ _ rfl).trans (StepZ.setCell (Z := fun k => k = g) _ _ rfl)))⟩
  all_goals first
    | (have := blk_set (blk_set HG1.out 0 (.int .i64 x)) 1 (.int .i64 y); simpa using this)
    | (have := blk_set (blk_set HG1.out 1 (.int .i64 y)) 0 (.int .i64 x); simpa using this)
set_option maxHeartbeats 4000000 in
theorem withdraws_calls (g : Nat) (a b n x y c : Int) (W : World) (hL : Laid W) (hg : W.heap[g]? = some (.cells #[.int .i64 a, .int .i64 b] 58 (0, 0))) (h : moveF b a n = (y, x, c)) :
    Calls Tryd.prog 48 #[.pointer (some ⟨g, 0, none⟩), .int .i64 n] W fun e W' => e = .returned (.int .i64 c) ∧ Left2 g x y W W' := by
  have HS := Aside0.mk (fun (w' : World) (hb : Below W.heap.size W w') => money_Move.calls b a n y x c w' (Laid_below hL hb) (by unfold money_Move.f; rw [h]))
  have HG := Aside0.mk hg
  have c0 := (blk_cell hg 0).trans rfl
  have c1 := (blk_cell hg 1).trans rfl
  clear hL h hg
  have hu58 := Tryd.underlying58
  have hu23 := Tryd.underlying23
  go_enter Tryd.func48, Tryd.ntmps48
  go_wp2_with fail
  go_region_with (go_at_call 68; refine (HS.out _ (by repeat (first | exact Below.refl _ _ | apply below_drew1))).mono ?_; rintro e w1 ⟨rfl, hb⟩; have hg1 := (hb.block _ (Array.getElem?_eq_some_iff.1 HG.out).1).trans HG.out; have d0 := (blk_cell hg1 0).trans rfl; have f0 := blk_frozen hg1 0; have d1 := (blk_cell hg1 1).trans rfl; have f1 := blk_frozen hg1 1; have HG1 := Aside0.mk hg1; have HB1 := Aside0.mk hb; clear hb hg1)
  all_goals (go_wp2; go_ret)
  all_goals
    refine ⟨rfl, ?_, (StepZ.drew _ _).trans ((StepZ.of_below HB1.out).trans ((StepZ.setCell (Z := fun k => k = g) _ _ rfl).trans (StepZ.setCell (Z := fun k => k = g) _ _ rfl)))⟩
  all_goals first
    | (have := blk_set (blk_set HG1.out 0 (.int .i64 x)) 1 (.int .i64 y); simpa using this)
    | (have := blk_set (blk_set HG1.out 1 (.int .i64 y)) 0 (.int .i64 x); simpa using this)
set_option maxHeartbeats 4000000 in
theorem earns_calls (w0 : World) (g : Nat) (a b n x c y d : Int) (W : World) (hL0 : Laid w0) (hb0 : Below w0.heap.size w0 W) (hgb : w0.heap.size ≤ g) (hg : W.heap[g]? = some (.cells #[.int .i64 a, .int .i64 b] 58 (0, 0))) (h : addF a n = (x, c)) (h2 : addF x b = (y, d)) :
    Calls Tryd.prog 49 #[.pointer (some ⟨g, 0, none⟩), .int .i64 n] W fun e W' => e = .returned (.int .i64 (if c = 0 then d else c)) ∧ Left2 g x b W W' := by
  have hL := Laid_below hL0 hb0
  have HS := Aside0.mk (money_Add.calls a n x c W hL (by unfold money_Add.f; rw [h]))
  have HT := Aside0.mk (fun (w' : World) (hb : Below w0.heap.size w0 w') => money_Add.calls x b y d w' (Laid_below hL0 hb) (by unfold money_Add.f; rw [h2]))
  have HG := Aside0.mk hg
  have HB0 := Aside0.mk hb0
  have c0 := (blk_cell hg 0).trans rfl
  have c1 := (blk_cell hg 1).trans rfl
  clear hL h h2 hg hL0 hb0
  have hu58 := Tryd.underlying58
  have hu23 := Tryd.underlying23
  by_cases hc : c = 0
  · subst hc
    rw [if_pos rfl]
    go_enter Tryd.func49, Tryd.ntmps49
    go_wp2_with (go_at_call 61; refine HS.out.mono ?_; rintro e w1 ⟨rfl, hb⟩; have hg1 := (hb.block _ (Array.getElem?_eq_some_iff.1 HG.out).1).trans HG.out; have d0 := (blk_cell hg1 0).trans rfl; have d1 := (blk_cell hg1 1).trans rfl; have f0 := blk_frozen hg1 0; have HG1 := Aside0.mk hg1; have HB1 := Aside0.mk hb; clear hb hg1)
    have hv := blk_set HG1.out 0 (.int .i64 x)
    have hv' : (w1.setCell ⟨g, 0, none⟩ (.int .i64 x)).heap[g]? = some (.cells #[.int .i64 x, .int .i64 b] 58 (0, 0)) := by simpa using hv
    have hm2 : StepZ (fun k => k = g) W (w1.setCell ⟨g, 0, none⟩ (.int .i64 x)) := (StepZ.of_below HB1.out).trans (StepZ.setCell (Z := fun k => k = g) _ _ rfl)
    have hm0 : Below w0.heap.size w0 (w1.setCell ⟨g, 0, none⟩ (.int .i64 x)) := HB0.out.trans (hm2.below HB0.out.size (fun k hk => by omega))
    generalize w1.setCell ⟨g, 0, none⟩ (.int .i64 x) = V at *
    have e0 := (blk_cell hv' 0).trans rfl
    have e1 := (blk_cell hv' 1).trans rfl
    have HV := Aside0.mk hv'
    have HM := Aside0.mk hm2
    have HM0 := Aside0.mk hm0
    clear hv hv' hm2 hm0 d0 d1 f0 c0 c1
    go_region_with (go_at_call 61; refine (HT.out _ (by repeat (first | exact HM0.out | apply below_drew1))).mono ?_; rintro e w2 ⟨rfl, hb⟩; have HB2 := Aside0.mk hb; have HG2 := Aside0.mk ((hb.block _ (by exact (Array.getElem?_eq_some_iff.1 HV.out).1)).trans HV.out); clear hb)
    all_goals (go_wp2; go_ret)
    all_goals exact ⟨rfl, HG2.out, HM.out.trans ((StepZ.drew _ _).trans (StepZ.of_below HB2.out))⟩
  · rw [if_neg hc]
    have hc' : (c != 0) = true := bne_iff_ne.mpr hc
    clear hc
    go_enter Tryd.func49, Tryd.ntmps49
    go_wp2_with (go_at_call 61; refine HS.out.mono ?_; rintro e w1 ⟨rfl, hb⟩; have hg1 := (hb.block _ (Array.getElem?_eq_some_iff.1 HG.out).1).trans HG.out; have d0 := (blk_cell hg1 0).trans rfl; have d1 := (blk_cell hg1 1).trans rfl; have f0 := blk_frozen hg1 0; have HG1 := Aside0.mk hg1; have HB1 := Aside0.mk hb; clear hb hg1)
    go_ret
    exact ⟨rfl, by simpa using blk_set HG1.out 0 (.int .i64 x), (StepZ.of_below HB1.out).trans (StepZ.setCell (Z := fun k => k = g) _ _ rfl)⟩

end Go.Proofs.YtgnjodocggihoaaDoor.K
