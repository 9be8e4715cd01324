/- accounts' (*purse).does with a method. -/
import Derived.Test.YtgnjodocggihoaaDoorAMeth
import Derived.Test.YtgnjodocggihoaaDoorKx23
import Derived.Test.YtgnjodocggihoaaDoorKx1
namespace Go.Proofs.YtgnjodocggihoaaDoor.K
open Go.RowKit Go.Proofs.YtgnjodocggihoaaDoor.Rng Go.Proofs.YtgnjodocggihoaaDoorW.PrintWords Go.Proofs.YtgnjodocggihoaaDoorW.PrintLast Go.Proofs.YtgnjodocggihoaaDoorW.PrintMore
set_option linter.unusedVariables false
set_option linter.unusedSimpArgs false
attribute [local go_sem high] eqA23

theorem pw_below {B : Nat} {w W : World} (h : Below B w W) (n : Nat) : Below B w (W.drewN n) := ⟨h.os, h.tape, h.output, h.size, h.block⟩

set_option maxHeartbeats 4000000 in
theorem does_no (M : Value) (w0 : World) (g : Nat) (a b n : Int) (W : World) (hL0 : Laid w0) (hb0 : Below w0.heap.size w0 W) (hgb : w0.heap.size ≤ g)
    (hg : W.heap[g]? = some (.cells #[.int .i64 a, .int .i64 b] 58 (0, 0))) (hr : (addF a b).2 ≠ 0) :
    Calls Tryd.prog 46 #[.pointer (some ⟨g, 0, none⟩), M, .int .i64 n] W fun e W' => e = .returned (.tuple #[.agg #[.int .i64 0, .int .i64 0], .int .i64 130]) ∧ Below g W W' := by
  have HR := Aside0.mk (fun (w' : World) (hb : Below w0.heap.size w0 w') => accounts_purse_isRight.calls a b false w' (Laid_below hL0 hb) (by simp [accounts_purse_isRight.f, money_Add.f, hr]))
  have HG := Aside0.mk hg
  have HB0 := Aside0.mk hb0
  have c0 := (blk_cell hg 0).trans rfl
  have c1 := (blk_cell hg 1).trans rfl
  have hgl : g < W.heap.size := (Array.getElem?_eq_some_iff.1 hg).1
  clear hL0 hb0 hg hr
  have hu58 := Tryd.underlying58
  have hu23 := Tryd.underlying23
  go_enter Tryd.func46, Tryd.ntmps46
  go_wp2_with (go_at_call 55; refine (HR.out _ (below_alloc HB0.out _)).mono ?_; rintro e w1 ⟨rfl, hb⟩; have hq := (hb.block _ (by simp)).trans (MapKept.heap_alloc W _).1; have q0 := (blk_cell hq 0).trans rfl; have q1 := (blk_cell hq 1).trans rfl; have f0 := blk_frozen hq 0; have f1 := blk_frozen hq 1; have HQ := Aside0.mk hq; have HB1 := Aside0.mk (below_then (below_alloc (Below.refl W.heap.size W) _) (by simp) hb); clear hb hq)
  have hz := blk_set (blk_set HQ.out 0 (.int .i64 0)) 1 (.int .i64 0)
  have hm : Below g W ((w1.setCell ⟨W.heap.size, 0, none⟩ (.int .i64 0)).setCell ⟨W.heap.size, 1, none⟩ (.int .i64 0)) := ((HB1.out.mono (Nat.le_of_lt hgl)).setCell (Nat.le_of_lt hgl) _).setCell (Nat.le_of_lt hgl) _
  generalize (w1.setCell ⟨W.heap.size, 0, none⟩ (.int .i64 0)).setCell ⟨W.heap.size, 1, none⟩ (.int .i64 0) = V at hz hm ⊢
  have z0 := (blk_cell hz 0).trans rfl
  have z1 := (blk_cell hz 1).trans rfl
  exact bodyPost_ret (v := .tuple #[.agg #[.int .i64 0, .int .i64 0], .int .i64 130]) (by simp [results, Tryd.results46, go_sem, z0, z1]) rfl ⟨rfl, hm⟩

set_option maxRecDepth 100000 in
set_option maxHeartbeats 8000000 in
theorem does_deposits (w0 : World) (g : Nat) (a b n x y c p q : Int) (W : World) (hres : (c = 0 ∧ p = x ∧ q = y) ∨ (c ≠ 0 ∧ p = 0 ∧ q = 0)) (hL0 : Laid w0) (hb0 : Below w0.heap.size w0 W) (hgb : w0.heap.size ≤ g)
    (hg : W.heap[g]? = some (.cells #[.int .i64 a, .int .i64 b] 58 (0, 0))) (hr : (addF a b).2 = 0)
    (HM : ∀ W1, Below w0.heap.size w0 W1 → W1.heap[g]? = some (.cells #[.int .i64 a, .int .i64 b] 58 (0, 0)) → Calls Tryd.prog 47 #[.pointer (some ⟨g, 0, none⟩), .int .i64 n] W1 fun e W' => e = .returned (.int .i64 c) ∧ Left2 g x y W1 W') :
    Calls Tryd.prog 46 #[.pointer (some ⟨g, 0, none⟩), .func (.func 47) #[.pointer (some ⟨g, 0, none⟩)] #[], .int .i64 n] W fun e W' => e = .returned (.tuple #[.agg #[.int .i64 p, .int .i64 q], .int .i64 c]) ∧ Below g W W' := by
  have HR := Aside0.mk (fun (w' : World) (hb : Below w0.heap.size w0 w') => accounts_purse_isRight.calls a b true w' (Laid_below hL0 hb) (by simp [accounts_purse_isRight.f, money_Add.f, hr]))
  have HG := Aside0.mk hg
  have HB0 := Aside0.mk hb0
  have HMM := Aside0.mk HM
  have HRES := Aside0.mk hres
  clear hres
  have c0 := (blk_cell hg 0).trans rfl
  have c1 := (blk_cell hg 1).trans rfl
  have hgl : g < W.heap.size := (Array.getElem?_eq_some_iff.1 hg).1
  have HGL := Aside0.mk hgl
  clear hL0 hb0 hg hr HM
  have hu58 := Tryd.underlying58
  have hu23 := Tryd.underlying23
  go_enter Tryd.func46, Tryd.ntmps46
  go_upto_region 5 with (first
    | (go_at_call 55; refine (HR.out _ (below_alloc HB0.out _)).mono ?_; rintro e w1 ⟨rfl, hb⟩; have hq := (hb.block _ (by simp)).trans (MapKept.heap_alloc W _).1; have hg1 := (hb.block g (by have := HGL.out; simp; omega)).trans (alloc_old _ HG.out); have HQ := Aside0.mk hq; have HG1 := Aside0.mk hg1; have HB1 := Aside0.mk (below_then (below_alloc (Below.refl W.heap.size W) _) (by simp) hb); clear hb hq hg1)
    | (go_at_call 47; refine (HMM.out _ (HB0.out.trans (HB1.out.mono (by have := HB0.out.size; omega))) HG1.out).mono ?_; rintro e w2 ⟨rfl, hl2⟩; have HL2 := Aside0.mk hl2; clear hl2))
  have hst : StepZ (fun k => k = g) w1 w2 := HL2.out.2
  have hqq := hst.at_ HQ.out (by show ¬ W.heap.size = g; have := HGL.out; omega)
  have hv1 := alloc_old (.cells #[.int .i64 0, .int .i64 0] 23) HL2.out.1
  have hv2 := alloc_old (.cells #[.int .i64 0, .int .i64 0] 23) hqq
  have hv3 := (MapKept.heap_alloc w2 (.cells #[.int .i64 0, .int .i64 0] 23)).1
  have hlt2 : W.heap.size < w2.heap.size := (Array.getElem?_eq_some_iff.1 hqq).1
  have hbw : Below g W (w2.alloc (.cells #[.int .i64 0, .int .i64 0] 23)) := ((HB1.out.mono (Nat.le_of_lt hgl)).trans (hst.below (by have := HB1.out.size; omega) (fun k hk => by omega))).alloc (by omega) _
  have HQB := Aside0.mk (show g ≤ W.heap.size from Nat.le_of_lt hgl)
  have hneg : g ≠ W.heap.size := by omega
  clear hst hqq c0 c1 hgl
  generalize w2.alloc (.cells #[.int .i64 0, .int .i64 0] 23) = V at *
  have g0 := (blk_cell hv1 0).trans rfl
  have g1 := (blk_cell hv1 1).trans rfl
  have k0 := blk_frozen hv1 0
  have k1 := blk_frozen hv1 1
  have q0 := (blk_cell hv2 0).trans rfl
  have q1 := (blk_cell hv2 1).trans rfl
  have f0 := blk_frozen hv2 0
  have f1 := blk_frozen hv2 1
  have r0 := (blk_cell hv3 0).trans rfl
  have r1 := (blk_cell hv3 1).trans rfl
  have HV1 := Aside0.mk hv1
  have HV2 := Aside0.mk hv2
  have HVB := Aside0.mk hbw
  clear hv1 hv2 hv3 hbw
  have hres := HRES.out
  clear HRES
  rcases hres with ⟨rfl, rfl, rfl⟩ | ⟨hc, rfl, rfl⟩
  · go_quiet (fail)
    go_wp2
    have hz : (((V.drewN nq).setCell ⟨W.heap.size, 0, none⟩ (.int .i64 p)).setCell ⟨W.heap.size, 1, none⟩ (.int .i64 q)).heap[W.heap.size]? = some (.cells #[.int .i64 p, .int .i64 q] 23 (0, 0)) := by simpa using blk_set (blk_set (blk_drewN HV2.out nq) 0 (.int .i64 p)) 1 (.int .i64 q)
    have hb : Below g W (((V.drewN nq).setCell ⟨W.heap.size, 0, none⟩ (.int .i64 p)).setCell ⟨W.heap.size, 1, none⟩ (.int .i64 q)) := ((pw_below HVB.out nq).setCell HQB.out _).setCell HQB.out _
    generalize ((V.drewN nq).setCell ⟨W.heap.size, 0, none⟩ (.int .i64 p)).setCell ⟨W.heap.size, 1, none⟩ (.int .i64 q) = Y at hz hb ⊢
    have z0 := (blk_cell hz 0).trans rfl
    have z1 := (blk_cell hz 1).trans rfl
    exact bodyPost_ret (v := .tuple #[.agg #[.int .i64 p, .int .i64 q], .int .i64 0]) (by simp [results, Tryd.results46, go_sem, z0, z1]) rfl ⟨rfl, hb⟩
  · have hc' : (c != 0) = true := bne_iff_ne.mpr hc
    clear hc
    cases hxy : (x == 0 && y == 0) with
    | true =>
      obtain ⟨rfl, rfl⟩ : x = 0 ∧ y = 0 := by simpa using hxy
      go_quiet (fail)
      go_wp2
      have hz : (((V.drewN nq).setCell ⟨W.heap.size, 0, none⟩ (.int .i64 0)).setCell ⟨W.heap.size, 1, none⟩ (.int .i64 0)).heap[W.heap.size]? = some (.cells #[.int .i64 0, .int .i64 0] 23 (0, 0)) := by simpa using blk_set (blk_set (blk_drewN HV2.out nq) 0 (.int .i64 0)) 1 (.int .i64 0)
      have hb : Below g W (((V.drewN nq).setCell ⟨W.heap.size, 0, none⟩ (.int .i64 0)).setCell ⟨W.heap.size, 1, none⟩ (.int .i64 0)) := ((pw_below HVB.out nq).setCell HQB.out _).setCell HQB.out _
      generalize ((V.drewN nq).setCell ⟨W.heap.size, 0, none⟩ (.int .i64 0)).setCell ⟨W.heap.size, 1, none⟩ (.int .i64 0) = Y at hz hb ⊢
      have z0 := (blk_cell hz 0).trans rfl
      have z1 := (blk_cell hz 1).trans rfl
      exact bodyPost_ret (v := .tuple #[.agg #[.int .i64 0, .int .i64 0], .int .i64 c]) (by simp [results, Tryd.results46, go_sem, z0, z1]) rfl ⟨rfl, hb⟩
    | false =>
      go_quiet (fail)
      go_wp2
      have hz : (((((V.drewN nq).setCell ⟨g, 0, none⟩ (.int .i64 0)).setCell ⟨g, 1, none⟩ (.int .i64 0)).setCell ⟨W.heap.size, 0, none⟩ (.int .i64 0)).setCell ⟨W.heap.size, 1, none⟩ (.int .i64 0)).heap[W.heap.size]? = some (.cells #[.int .i64 0, .int .i64 0] 23 (0, 0)) := by simpa using blk_set (blk_set ((Below.heap_setCell _ _ _ _ (Ne.symm hneg)).trans ((Below.heap_setCell _ _ _ _ (Ne.symm hneg)).trans (blk_drewN HV2.out nq))) 0 (.int .i64 0)) 1 (.int .i64 0)
      have hb : Below g W (((((V.drewN nq).setCell ⟨g, 0, none⟩ (.int .i64 0)).setCell ⟨g, 1, none⟩ (.int .i64 0)).setCell ⟨W.heap.size, 0, none⟩ (.int .i64 0)).setCell ⟨W.heap.size, 1, none⟩ (.int .i64 0)) := ((((pw_below HVB.out nq).setCell (Nat.le_refl _) _).setCell (Nat.le_refl _) _).setCell HQB.out _).setCell HQB.out _
      generalize ((((V.drewN nq).setCell ⟨g, 0, none⟩ (.int .i64 0)).setCell ⟨g, 1, none⟩ (.int .i64 0)).setCell ⟨W.heap.size, 0, none⟩ (.int .i64 0)).setCell ⟨W.heap.size, 1, none⟩ (.int .i64 0) = Y at hz hb ⊢
      have z0 := (blk_cell hz 0).trans rfl
      have z1 := (blk_cell hz 1).trans rfl
      exact bodyPost_ret (v := .tuple #[.agg #[.int .i64 0, .int .i64 0], .int .i64 c]) (by simp [results, Tryd.results46, go_sem, z0, z1]) rfl ⟨rfl, hb⟩

set_option maxRecDepth 100000 in
set_option maxHeartbeats 8000000 in
theorem does_withdraws (w0 : World) (g : Nat) (a b n x y c p q : Int) (W : World) (hres : (c = 0 ∧ p = x ∧ q = y) ∨ (c ≠ 0 ∧ p = 0 ∧ q = 0)) (hL0 : Laid w0) (hb0 : Below w0.heap.size w0 W) (hgb : w0.heap.size ≤ g)
    (hg : W.heap[g]? = some (.cells #[.int .i64 a, .int .i64 b] 58 (0, 0))) (hr : (addF a b).2 = 0)
    (HM : ∀ W1, Below w0.heap.size w0 W1 → W1.heap[g]? = some (.cells #[.int .i64 a, .int .i64 b] 58 (0, 0)) → Calls Tryd.prog 48 #[.pointer (some ⟨g, 0, none⟩), .int .i64 n] W1 fun e W' => e = .returned (.int .i64 c) ∧ Left2 g x y W1 W') :
    Calls Tryd.prog 46 #[.pointer (some ⟨g, 0, none⟩), .func (.func 48) #[.pointer (some ⟨g, 0, none⟩)] #[], .int .i64 n] W fun e W' => e = .returned (.tuple #[.agg #[.int .i64 p, .int .i64 q], .int .i64 c]) ∧ Below g W W' := by
  have HR := Aside0.mk (fun (w' : World) (hb : Below w0.heap.size w0 w') => accounts_purse_isRight.calls a b true w' (Laid_below hL0 hb) (by simp [accounts_purse_isRight.f, money_Add.f, hr]))
  have HG := Aside0.mk hg
  have HB0 := Aside0.mk hb0
  have HMM := Aside0.mk HM
  have HRES := Aside0.mk hres
  clear hres
  have c0 := (blk_cell hg 0).trans rfl
  have c1 := (blk_cell hg 1).trans rfl
  have hgl : g < W.heap.size := (Array.getElem?_eq_some_iff.1 hg).1
  have HGL := Aside0.mk hgl
  clear hL0 hb0 hg hr HM
  have hu58 := Tryd.underlying58
  have hu23 := Tryd.underlying23
  go_enter Tryd.func46, Tryd.ntmps46
  go_upto_region 5 with (first
    | (go_at_call 55; refine (HR.out _ (below_alloc HB0.out _)).mono ?_; rintro e w1 ⟨rfl, hb⟩; have hq := (hb.block _ (by simp)).trans (MapKept.heap_alloc W _).1; have hg1 := (hb.block g (by have := HGL.out; simp; omega)).trans (alloc_old _ HG.out); have HQ := Aside0.mk hq; have HG1 := Aside0.mk hg1; have HB1 := Aside0.mk (below_then (below_alloc (Below.refl W.heap.size W) _) (by simp) hb); clear hb hq hg1)
    | (go_at_call 48; refine (HMM.out _ (HB0.out.trans (HB1.out.mono (by have := HB0.out.size; omega))) HG1.out).mono ?_; rintro e w2 ⟨rfl, hl2⟩; have HL2 := Aside0.mk hl2; clear hl2))
  have hst : StepZ (fun k => k = g) w1 w2 := HL2.out.2
  have hqq := hst.at_ HQ.out (by show ¬ W.heap.size = g; have := HGL.out; omega)
  have hv1 := alloc_old (.cells #[.int .i64 0, .int .i64 0] 23) HL2.out.1
  have hv2 := alloc_old (.cells #[.int .i64 0, .int .i64 0] 23) hqq
  have hv3 := (MapKept.heap_alloc w2 (.cells #[.int .i64 0, .int .i64 0] 23)).1
  have hlt2 : W.heap.size < w2.heap.size := (Array.getElem?_eq_some_iff.1 hqq).1
  have hbw : Below g W (w2.alloc (.cells #[.int .i64 0, .int .i64 0] 23)) := ((HB1.out.mono (Nat.le_of_lt hgl)).trans (hst.below (by have := HB1.out.size; omega) (fun k hk => by omega))).alloc (by omega) _
  have HQB := Aside0.mk (show g ≤ W.heap.size from Nat.le_of_lt hgl)
  have hneg : g ≠ W.heap.size := by omega
  clear hst hqq c0 c1 hgl
  generalize w2.alloc (.cells #[.int .i64 0, .int .i64 0] 23) = V at *
  have g0 := (blk_cell hv1 0).trans rfl
  have g1 := (blk_cell hv1 1).trans rfl
  have k0 := blk_frozen hv1 0
  have k1 := blk_frozen hv1 1
  have q0 := (blk_cell hv2 0).trans rfl
  have q1 := (blk_cell hv2 1).trans rfl
  have f0 := blk_frozen hv2 0
  have f1 := blk_frozen hv2 1
  have r0 := (blk_cell hv3 0).trans rfl
  have r1 := (blk_cell hv3 1).trans rfl
  have HV1 := Aside0.mk hv1
  have HV2 := Aside0.mk hv2
  have HVB := Aside0.mk hbw
  clear hv1 hv2 hv3 hbw
  have hres := HRES.out
  clear HRES
  rcases hres with ⟨rfl, rfl, rfl⟩ | ⟨hc, rfl, rfl⟩
  · go_quiet (fail)
    go_wp2
    have hz : (((V.drewN nq).setCell ⟨W.heap.size, 0, none⟩ (.int .i64 p)).setCell ⟨W.heap.size, 1, none⟩ (.int .i64 q)).heap[W.heap.size]? = some (.cells #[.int .i64 p, .int .i64 q] 23 (0, 0)) := by simpa using blk_set (blk_set (blk_drewN HV2.out nq) 0 (.int .i64 p)) 1 (.int .i64 q)
    have hb : Below g W (((V.drewN nq).setCell ⟨W.heap.size, 0, none⟩ (.int .i64 p)).setCell ⟨W.heap.size, 1, none⟩ (.int .i64 q)) := ((pw_below HVB.out nq).setCell HQB.out _).setCell HQB.out _
    generalize ((V.drewN nq).setCell ⟨W.heap.size, 0, none⟩ (.int .i64 p)).setCell ⟨W.heap.size, 1, none⟩ (.int .i64 q) = Y at hz hb ⊢
    have z0 := (blk_cell hz 0).trans rfl
    have z1 := (blk_cell hz 1).trans rfl
    exact bodyPost_ret (v := .tuple #[.agg #[.int .i64 p, .int .i64 q], .int .i64 0]) (by simp [results, Tryd.results46, go_sem, z0, z1]) rfl ⟨rfl, hb⟩
  · have hc' : (c != 0) = true := bne_iff_ne.mpr hc
    clear hc
    cases hxy : (x == 0 && y == 0) with
    | true =>
      obtain ⟨rfl, rfl⟩ : x = 0 ∧ y = 0 := by simpa using hxy
      go_quiet (fail)
      go_wp2
      have hz : (((V.drewN nq).setCell ⟨W.heap.size, 0, none⟩ (.int .i64 0)).setCell ⟨W.heap.size, 1, none⟩ (.int .i64 0)).heap[W.heap.size]? = some (.cells #[.int .i64 0, .int .i64 0] 23 (0, 0)) := by simpa using blk_set (blk_set (blk_drewN HV2.out nq) 0 (.int .i64 0)) 1 (.int .i64 0)
      have hb : Below g W (((V.drewN nq).setCell ⟨W.heap.size, 0, none⟩ (.int .i64 0)).setCell ⟨W.heap.size, 1, none⟩ (.int .i64 0)) := ((pw_below HVB.out nq).setCell HQB.out _).setCell HQB.out _
      generalize ((V.drewN nq).setCell ⟨W.heap.size, 0, none⟩ (.int .i64 0)).setCell ⟨W.heap.size, 1, none⟩ (.int .i64 0) = Y at hz hb ⊢
      have z0 := (blk_cell hz 0).trans rfl
      have z1 := (blk_cell hz 1).trans rfl
      exact bodyPost_ret (v := .tuple #[.agg #[.int .i64 0, .int .i64 0], .int .i64 c]) (by simp [results, Tryd.results46, go_sem, z0, z1]) rfl ⟨rfl, hb⟩
    | false =>
      go_quiet (fail)
      go_wp2
      have hz : (((((V.drewN nq).setCell ⟨g, 0, none⟩ (.int .i64 0)).setCell ⟨g, 1, none⟩ (.int .i64 0)).setCell ⟨W.heap.size, 0, none⟩ (.int .i64 0)).setCell ⟨W.heap.size, 1, none⟩ (.int .i64 0)).heap[W.heap.size]? = some (.cells #[.int .i64 0, .int .i64 0] 23 (0, 0)) := by simpa using blk_set (blk_set ((Below.heap_setCell _ _ _ _ (Ne.symm hneg)).trans ((Below.heap_setCell _ _ _ _ (Ne.symm hneg)).trans (blk_drewN HV2.out nq))) 0 (.int .i64 0)) 1 (.int .i64 0)
      have hb : Below g W (((((V.drewN nq).setCell ⟨g, 0, none⟩ (.int .i64 0)).setCell ⟨g, 1, none⟩ (.int .i64 0)).setCell ⟨W.heap.size, 0, none⟩ (.int .i64 0)).setCell ⟨W.heap.size, 1, none⟩ (.int .i64 0)) := ((((pw_below HVB.out nq).setCell (Nat.le_refl _) _).setCell (Nat.le_refl _) _).setCell HQB.out _).setCell HQB.out _
      generalize ((((V.drewN nq).setCell ⟨g, 0, none⟩ (.int .i64 0)).setCell ⟨g, 1, none⟩ (.int .i64 0)).setCell ⟨W.heap.size, 0, none⟩ (.int .i64 0)).setCell ⟨W.heap.size, 1, none⟩ (.int .i64 0) = Y at hz hb ⊢
      have z0 := (blk_cell hz 0).trans rfl
      have z1 := (blk_cell hz 1).trans rfl
      exact bodyPost_ret (v := .tuple #[.agg #[.int .i64 0, .int .i64 0], .int .i64 c]) (by simp [results, Tryd.results46, go_sem, z0, z1]) rfl ⟨rfl, hb⟩

set_option maxRecDepth 100000 in
set_option maxHeartbeats 8000000 in
theorem does_earns (w0 : World) (g : Nat) (a b n x y c p q : Int) (W : World) (hres : (c = 0 ∧ p = x ∧ q = y) ∨ (c ≠ 0 ∧ p = 0 ∧ q = 0)) (hL0 : Laid w0) (hb0 : Below w0.heap.size w0 W) (hgb : w0.heap.size ≤ g)
    (hg : W.heap[g]? = some (.cells #[.int .i64 a, .int .i64 b] 58 (0, 0))) (hr : (addF a b).2 = 0)
    (HM : ∀ W1, Below w0.heap.size w0 W1 → W1.heap[g]? = some (.cells #[.int .i64 a, .int .i64 b] 58 (0, 0)) → Calls Tryd.prog 49 #[.pointer (some ⟨g, 0, none⟩), .int .i64 n] W1 fun e W' => e = .returned (.int .i64 c) ∧ Left2 g x y W1 W') :
    Calls Tryd.prog 46 #[.pointer (some ⟨g, 0, none⟩), .func (.func 49) #[.pointer (some ⟨g, 0, none⟩)] #[], .int .i64 n] W fun e W' => e = .returned (.tuple #[.agg #[.int .i64 p, .int .i64 q], .int .i64 c]) ∧ Below g W W' := by
  have HR := Aside0.mk (fun (w' : World) (hb : Below w0.heap.size w0 w') => accounts_purse_isRight.calls a b true w' (Laid_below hL0 hb) (by simp [accounts_purse_isRight.f, money_Add.f, hr]))
  have HG := Aside0.mk hg
  have HB0 := Aside0.mk hb0
  have HMM := Aside0.mk HM
  have HRES := Aside0.mk hres
  clear hres
  have c0 := (blk_cell hg 0).trans rfl
  have c1 := (blk_cell hg 1).trans rfl
  have hgl : g < W.heap.size := (Array.getElem?_eq_some_iff.1 hg).1
  have HGL := Aside0.mk hgl
  clear hL0 hb0 hg hr HM
  have hu58 := Tryd.underlying58
  have hu23 := Tryd.underlying23
  go_enter Tryd.func46, Tryd.ntmps46
  go_upto_region 5 with (first
    | (go_at_call 55; refine (HR.out _ (below_alloc HB0.out _)).mono ?_; rintro e w1 ⟨rfl, hb⟩; have hq := (hb.block _ (by simp)).trans (MapKept.heap_alloc W _).1; have hg1 := (hb.block g (by have := HGL.out; simp; omega)).trans (alloc_old _ HG.out); have HQ := Aside0.mk hq; have HG1 := Aside0.mk hg1; have HB1 := Aside0.mk (below_then (below_alloc (Below.refl W.heap.size W) _) (by simp) hb); clear hb hq hg1)
    | (go_at_call 49; refine (HMM.out _ (HB0.out.trans (HB1.out.mono (by have := HB0.out.size; omega))) HG1.out).mono ?_; rintro e w2 ⟨rfl, hl2⟩; have HL2 := Aside0.mk hl2; clear hl2))
  have hst : StepZ (fun k => k = g) w1 w2 := HL2.out.2
  have hqq := hst.at_ HQ.out (by show ¬ W.heap.size = g; have := HGL.out; omega)
  have hv1 := alloc_old (.cells #[.int .i64 0, .int .i64 0] 23) HL2.out.1
  have hv2 := alloc_old (.cells #[.int .i64 0, .int .i64 0] 23) hqq
  have hv3 := (MapKept.heap_alloc w2 (.cells #[.int .i64 0, .int .i64 0] 23)).1
  have hlt2 : W.heap.size < w2.heap.size := (Array.getElem?_eq_some_iff.1 hqq).1
  have hbw : Below g W (w2.alloc (.cells #[.int .i64 0, .int .i64 0] 23)) := ((HB1.out.mono (Nat.le_of_lt hgl)).trans (hst.below (by have := HB1.out.size; omega) (fun k hk => by omega))).alloc (by omega) _
  have HQB := Aside0.mk (show g ≤ W.heap.size from Nat.le_of_lt hgl)
  have hneg : g ≠ W.heap.size := by omega
  clear hst hqq c0 c1 hgl
  generalize w2.alloc (.cells #[.int .i64 0, .int .i64 0] 23) = V at *
  have g0 := (blk_cell hv1 0).trans rfl
  have g1 := (blk_cell hv1 1).trans rfl
  have k0 := blk_frozen hv1 0
  have k1 := blk_frozen hv1 1
  have q0 := (blk_cell hv2 0).trans rfl
  have q1 := (blk_cell hv2 1).trans rfl
  have f0 := blk_frozen hv2 0
  have f1 := blk_frozen hv2 1
  have r0 := (blk_cell hv3 0).trans rfl
  have r1 := (blk_cell hv3 1).trans rfl
  have HV1 := Aside0.mk hv1
  have HV2 := Aside0.mk hv2
  have HVB := Aside0.mk hbw
  clear hv1 hv2 hv3 hbw
  have hres := HRES.out
  clear HRES
  rcases hres with ⟨rfl, rfl, rfl⟩ | ⟨hc, rfl, rfl⟩
  · go_quiet (fail)
    go_wp2
    have hz : (((V.drewN nq).setCell ⟨W.heap.size, 0, none⟩ (.int .i64 p)).setCell ⟨W.heap.size, 1, none⟩ (.int .i64 q)).heap[W.heap.size]? = some (.cells #[.int .i64 p, .int .i64 q] 23 (0, 0)) := by simpa using blk_set (blk_set (blk_drewN HV2.out nq) 0 (.int .i64 p)) 1 (.int .i64 q)
    have hb : Below g W (((V.drewN nq).setCell ⟨W.heap.size, 0, none⟩ (.int .i64 p)).setCell ⟨W.heap.size, 1, none⟩ (.int .i64 q)) := ((pw_below HVB.out nq).setCell HQB.out _).setCell HQB.out _
    generalize ((V.drewN nq).setCell ⟨W.heap.size, 0, none⟩ (.int .i64 p)).setCell ⟨W.heap.size, 1, none⟩ (.int .i64 q) = Y at hz hb ⊢
    have z0 := (blk_cell hz 0).trans rfl
    have z1 := (blk_cell hz 1).trans rfl
    exact bodyPost_ret (v := .tuple #[.agg #[.int .i64 p, .int .i64 q], .int .i64 0]) (by simp [results, Tryd.results46, go_sem, z0, z1]) rfl ⟨rfl, hb⟩
  · have hc' : (c != 0) = true := bne_iff_ne.mpr hc
    clear hc
    cases hxy : (x == 0 && y == 0) with
    | true =>
      obtain ⟨rfl, rfl⟩ : x = 0 ∧ y = 0 := by simpa using hxy
      go_quiet (fail)
      go_wp2
      have hz : (((V.drewN nq).setCell ⟨W.heap.size, 0, none⟩ (.int .i64 0)).setCell ⟨W.heap.size, 1, none⟩ (.int .i64 0)).heap[W.heap.size]? = some (.cells #[.int .i64 0, .int .i64 0] 23 (0, 0)) := by simpa using blk_set (blk_set (blk_drewN HV2.out nq) 0 (.int .i64 0)) 1 (.int .i64 0)
      have hb : Below g W (((V.drewN nq).setCell ⟨W.heap.size, 0, none⟩ (.int .i64 0)).setCell ⟨W.heap.size, 1, none⟩ (.int .i64 0)) := ((pw_below HVB.out nq).setCell HQB.out _).setCell HQB.out _
      generalize ((V.drewN nq).setCell ⟨W.heap.size, 0, none⟩ (.int .i64 0)).setCell ⟨W.heap.size, 1, none⟩ (.int .i64 0) = Y at hz hb ⊢
      have z0 := (blk_cell hz 0).trans rfl
      have z1 := (blk_cell hz 1).trans rfl
      exact bodyPost_ret (v := .tuple #[.agg #[.int .i64 0, .int .i64 0], .int .i64 c]) (by simp [results, Tryd.results46, go_sem, z0, z1]) rfl ⟨rfl, hb⟩
    | false =>
      go_quiet (fail)
      go_wp2
      have hz : (((((V.drewN nq).setCell ⟨g, 0, none⟩ (.int .i64 0)).setCell ⟨g, 1, none⟩ (.int .i64 0)).setCell ⟨W.heap.size, 0, none⟩ (.int .i64 0)).setCell ⟨W.heap.size, 1, none⟩ (.int .i64 0)).heap[W.heap.size]? = some (.cells #[.int .i64 0, .int .i64 0] 23 (0, 0)) := by simpa using blk_set (blk_set ((Below.heap_setCell _ _ _ _ (Ne.symm hneg)).trans ((Below.heap_setCell _ _ _ _ (Ne.symm hneg)).trans (blk_drewN HV2.out nq))) 0 (.int .i64 0)) 1 (.int .i64 0)
      have hb : Below g W (((((V.drewN nq).setCell ⟨g, 0, none⟩ (.int .i64 0)).setCell ⟨g, 1, none⟩ (.int .i64 0)).setCell ⟨W.heap.size, 0, none⟩ (.int .i64 0)).setCell ⟨W.heap.size, 1, none⟩ (.int .i64 0)) := ((((pw_below HVB.out nq).setCell (Nat.le_refl _) _).setCell (Nat.le_refl _) _).setCell HQB.out _).setCell HQB.out _
      generalize ((((V.drewN nq).setCell ⟨g, 0, none⟩ (.int .i64 0)).setCell ⟨g, 1, none⟩ (.int .i64 0)).setCell ⟨W.heap.size, 0, none⟩ (.int .i64 0)).setCell ⟨W.heap.size, 1, none⟩ (.int .i64 0) = Y at hz hb ⊢
      have z0 := (blk_cell hz 0).trans rfl
      have z1 := (blk_cell hz 1).trans rfl
      exact bodyPost_ret (v := .tuple #[.agg #[.int .i64 0, .int .i64 0], .int .i64 c]) (by simp [results, Tryd.results46, go_sem, z0, z1]) rfl ⟨rfl, hb⟩

set_option maxRecDepth 100000 in
set_option maxHeartbeats 8000000 in
theorem does_spends (w0 : World) (g : Nat) (a b n x y c p q : Int) (W : World) (hres : (c = 0 ∧ p = x ∧ q = y) ∨ (c ≠ 0 ∧ p = 0 ∧ q = 0)) (hL0 : Laid w0) (hb0 : Below w0.heap.size w0 W) (hgb : w0.heap.size ≤ g)
    (hg : W.heap[g]? = some (.cells #[.int .i64 a, .int .i64 b] 58 (0, 0))) (hr : (addF a b).2 = 0)
    (HM : ∀ W1, Below w0.heap.size w0 W1 → W1.heap[g]? = some (.cells #[.int .i64 a, .int .i64 b] 58 (0, 0)) → Calls Tryd.prog 50 #[.pointer (some ⟨g, 0, none⟩), .int .i64 n] W1 fun e W' => e = .returned (.int .i64 c) ∧ Left2 g x y W1 W') :
    Calls Tryd.prog 46 #[.pointer (some ⟨g, 0, none⟩), .func (.func 50) #[.pointer (some ⟨g, 0, none⟩)] #[], .int .i64 n] W fun e W' => e = .returned (.tuple #[.agg #[.int .i64 p, .int .i64 q], .int .i64 c]) ∧ Below g W W' := by
  have HR := Aside0.mk (fun (w' : World) (hb : Below w0.heap.size w0 w') => accounts_purse_isRight.calls a b true w' (Laid_below hL0 hb) (by simp [accounts_purse_isRight.f, money_Add.f, hr]))
  have HG := Aside0.mk hg
  have HB0 := Aside0.mk hb0
  have HMM := Aside0.mk HM
  have HRES := Aside0.mk hres
  clear hres
  have c0 := (blk_cell hg 0).trans rfl
  have c1 := (blk_cell hg 1).trans rfl
  have hgl : g < W.heap.size := (Array.getElem?_eq_some_iff.1 hg).1
  have HGL := Aside0.mk hgl
  clear hL0 hb0 hg hr HM
  have hu58 := Tryd.underlying58
  have hu23 := Tryd.underlying23
  go_enter Tryd.func46, Tryd.ntmps46
  go_upto_region 5 with (first
    | (go_at_call 55; refine (HR.out _ (below_alloc HB0.out _)).mono ?_; rintro e w1 ⟨rfl, hb⟩; have hq := (hb.block _ (by simp)).trans (MapKept.heap_alloc W _).1; have hg1 := (hb.block g (by have := HGL.out; simp; omega)).trans (alloc_old _ HG.out); have HQ := Aside0.mk hq; have HG1 := Aside0.mk hg1; have HB1 := Aside0.mk (below_then (below_alloc (Below.refl W.heap.size W) _) (by simp) hb); clear hb hq hg1)
    | (go_at_call 50; refine (HMM.out _ (HB0.out.trans (HB1.out.mono (by have := HB0.out.size; omega))) HG1.out).mono ?_; rintro e w2 ⟨rfl, hl2⟩; have HL2 := Aside0.mk hl2; clear hl2))
  have hst : StepZ (fun k => k = g) w1 w2 := HL2.out.2
  have hqq := hst.at_ HQ.out (by show ¬ W.heap.size = g; have := HGL.out; omega)
  have hv1 := alloc_old (.cells #[.int .i64 0, .int .i64 0] 23) HL2.out.1
  have hv2 := alloc_old (.cells #[.int .i64 0, .int .i64 0] 23) hqq
  have hv3 := (MapKept.heap_alloc w2 (.cells #[.int .i64 0, .int .i64 0] 23)).1
  have hlt2 : W.heap.size < w2.heap.size := (Array.getElem?_eq_some_iff.1 hqq).1
  have hbw : Below g W (w2.alloc (.cells #[.int .i64 0, .int .i64 0] 23)) := ((HB1.out.mono (Nat.le_of_lt hgl)).trans (hst.below (by have := HB1.out.size; omega) (fun k hk => by omega))).alloc (by omega) _
  have HQB := Aside0.mk (show g ≤ W.heap.size from Nat.le_of_lt hgl)
  have hneg : g ≠ W.heap.size := by omega
  clear hst hqq c0 c1 hgl
  generalize w2.alloc (.cells #[.int .i64 0, .int .i64 0] 23) = V at *
  have g0 := (blk_cell hv1 0).trans rfl
  have g1 := (blk_cell hv1 1).trans rfl
  have k0 := blk_frozen hv1 0
  have k1 := blk_frozen hv1 1
  have q0 := (blk_cell hv2 0).trans rfl
  have q1 := (blk_cell hv2 1).trans rfl
  have f0 := blk_frozen hv2 0
  have f1 := blk_frozen hv2 1
  have r0 := (blk_cell hv3 0).trans rfl
  have r1 := (blk_cell hv3 1).trans rfl
  have HV1 := Aside0.mk hv1
  have HV2 := Aside0.mk hv2
  have HVB := Aside0.mk hbw
  clear hv1 hv2 hv3 hbw
  have hres := HRES.out
  clear HRES
  rcases hres with ⟨rfl, rfl, rfl⟩ | ⟨hc, rfl, rfl⟩
  · go_quiet (fail)
    go_wp2
    have hz : (((V.drewN nq).setCell ⟨W.heap.size, 0, none⟩ (.int .i64 p)).setCell ⟨W.heap.size, 1, none⟩ (.int .i64 q)).heap[W.heap.size]? = some (.cells #[.int .i64 p, .int .i64 q] 23 (0, 0)) := by simpa using blk_set (blk_set (blk_drewN HV2.out nq) 0 (.int .i64 p)) 1 (.int .i64 q)
    have hb : Below g W (((V.drewN nq).setCell ⟨W.heap.size, 0, none⟩ (.int .i64 p)).setCell ⟨W.heap.size, 1, none⟩ (.int .i64 q)) := ((pw_below HVB.out nq).setCell HQB.out _).setCell HQB.out _
    generalize ((V.drewN nq).setCell ⟨W.heap.size, 0, none⟩ (.int .i64 p)).setCell ⟨W.heap.size, 1, none⟩ (.int .i64 q) = Y at hz hb ⊢
    have z0 := (blk_cell hz 0).trans rfl
    have z1 := (blk_cell hz 1).trans rfl
    exact bodyPost_ret (v := .tuple #[.agg #[.int .i64 p, .int .i64 q], .int .i64 0]) (by simp [results, Tryd.results46, go_sem, z0, z1]) rfl ⟨rfl, hb⟩
  · have hc' : (c != 0) = true := bne_iff_ne.mpr hc
    clear hc
    cases hxy : (x == 0 && y == 0) with
    | true =>
      obtain ⟨rfl, rfl⟩ : x = 0 ∧ y = 0 := by simpa using hxy
      go_quiet (fail)
      go_wp2
      have hz : (((V.drewN nq).setCell ⟨W.heap.size, 0, none⟩ (.int .i64 0)).setCell ⟨W.heap.size, 1, none⟩ (.int .i64 0)).heap[W.heap.size]? = some (.cells #[.int .i64 0, .int .i64 0] 23 (0, 0)) := by simpa using blk_set (blk_set (blk_drewN HV2.out nq) 0 (.int .i64 0)) 1 (.int .i64 0)
      have hb : Below g W (((V.drewN nq).setCell ⟨W.heap.size, 0, none⟩ (.int .i64 0)).setCell ⟨W.heap.size, 1, none⟩ (.int .i64 0)) := ((pw_below HVB.out nq).setCell HQB.out _).setCell HQB.out _
      generalize ((V.drewN nq).setCell ⟨W.heap.size, 0, none⟩ (.int .i64 0)).setCell ⟨W.heap.size, 1, none⟩ (.int .i64 0) = Y at hz hb ⊢
      have z0 := (blk_cell hz 0).trans rfl
      have z1 := (blk_cell hz 1).trans rfl
      exact bodyPost_ret (v := .tuple #[.agg #[.int .i64 0, .int .i64 0], .int .i64 c]) (by simp [results, Tryd.results46, go_sem, z0, z1]) rfl ⟨rfl, hb⟩
    | false =>
      go_quiet (fail)
      go_wp2
      have hz : (((((V.drewN nq).setCell ⟨g, 0, none⟩ (.int .i64 0)).setCell ⟨g, 1, none⟩ (.int .i64 0)).setCell ⟨W.heap.size, 0, none⟩ (.int .i64 0)).setCell ⟨W.heap.size, 1, none⟩ (.int .i64 0)).heap[W.heap.size]? = some (.cells #[.int .i64 0, .int .i64 0] 23 (0, 0)) := by simpa using blk_set (blk_set ((Below.heap_setCell _ _ _ _ (Ne.symm hneg)).trans ((Below.heap_setCell _ _ _ _ (Ne.symm hneg)).trans (blk_drewN HV2.out nq))) 0 (.int .i64 0)) 1 (.int .i64 0)
      have hb : Below g W (((((V.drewN nq).setCell ⟨g, 0, none⟩ (.int .i64 0)).setCell ⟨g, 1, none⟩ (.int .i64 0)).setCell ⟨W.heap.size, 0, none⟩ (.int .i64 0)).setCell ⟨W.heap.size, 1, none⟩ (.int .i64 0)) := ((((pw_below HVB.out nq).setCell (Nat.le_refl _) _).setCell (Nat.le_refl _) _).setCell HQB.out _).setCell HQB.out _
      generalize ((((V.drewN nq).setCell ⟨g, 0, none⟩ (.int .i64 0)).setCell ⟨g, 1, none⟩ (.int .i64 0)).setCell ⟨W.heap.size, 0, none⟩ (.int .i64 0)).setCell ⟨W.heap.size, 1, none⟩ (.int .i64 0) = Y at hz hb ⊢
      have z0 := (blk_cell hz 0).trans rfl
      have z1 := (blk_cell hz 1).trans rfl
      exact bodyPost_ret (v := .tuple #[.agg #[.int .i64 0, .int .i64 0], .int .i64 c]) (by simp [results, Tryd.results46, go_sem, z0, z1]) rfl ⟨rfl, hb⟩

end Go.Proofs.YtgnjodocggihoaaDoor.K
