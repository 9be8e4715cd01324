/- The contract of shop.Buy; shop.Parse at bytes of another length. -/
import Derived.Test.YtoclldkgkmhgaaaDoorSList
import Derived.Test.YtoclldkgkmhgaaaDoorKx16
namespace Go.Proofs.YtoclldkgkmhgaaaDoor.K
open Go.RowKit Go.MapKept Go.Proofs.YtoclldkgkmhgaaaDoorW.PrintWords Go.Proofs.YtoclldkgkmhgaaaDoorW.PrintLast Go.Proofs.YtoclldkgkmhgaaaDoorW.PrintMore
set_option linter.unusedVariables false
set_option linter.unusedSimpArgs false

/-- Paying. -/
def payS (a0 a1 b0 b1 n : Int) : Int × Int × Int × Int × Int :=
  if (okS ⟨a0, a1⟩ && okS ⟨b0, b1⟩) = true then
    (if (spendF a0 a1 n).2.2 = 0 then (if (earnF b0 b1 n).2.2 = 0 then ((spendF a0 a1 n).1, (spendF a0 a1 n).2.1, (earnF b0 b1 n).1, (earnF b0 b1 n).2.1, 0) else (0, 0, 0, 0, (earnF b0 b1 n).2.2)) else (0, 0, 0, 0, (spendF a0 a1 n).2.2))
  else (0, 0, 0, 0, 130)
theorem pay_ok (a0 a1 b0 b1 n : Int) : accounts_Pay.f a0 a1 b0 b1 n = some (payS a0 a1 b0 b1 n) := by
  unfold accounts_Pay.f accounts_are.f accounts_Spend.f accounts_Earn.f payS
  rw [if_neg (by simp)]
  simp only [Option.bind_some, List.all_cons, List.all_nil, Bool.and_true]
  by_cases h : (okS ⟨a0, a1⟩ && okS ⟨b0, b1⟩) = true
  · rw [if_pos h, if_pos h]
    by_cases h1 : (spendF a0 a1 n).2.2 = 0
    · rw [if_pos h1, if_pos h1]
      by_cases h2 : (earnF b0 b1 n).2.2 = 0
      · rw [if_pos h2, if_pos h2]
      · rw [if_neg h2, if_neg h2]
    · rw [if_neg h1, if_neg h1]
  · rw [if_neg h, if_neg h]

/-- Buying. -/
def buyS (a0 a1 b0 b1 : Int) (xs : List S25) (x0 x1 x2 x3 : Int) : Int × Int × Int × Int × List S25 × Int :=
  if listOk x0 x1 x2 x3 = true then
    (if (payS a0 a1 b0 b1 x3).2.2.2.2 = 0 then
      (if (cancelS xs x0 x1 x2 x3).2 = 0 then ((payS a0 a1 b0 b1 x3).1, (payS a0 a1 b0 b1 x3).2.1, (payS a0 a1 b0 b1 x3).2.2.1, (payS a0 a1 b0 b1 x3).2.2.2.1, (cancelS xs x0 x1 x2 x3).1, 0)
      else (0, 0, 0, 0, [], (cancelS xs x0 x1 x2 x3).2))
    else (0, 0, 0, 0, [], (payS a0 a1 b0 b1 x3).2.2.2.2))
  else (0, 0, 0, 0, [], 150)

theorem set_other {w : World} {g h : Nat} {o : Obj} (v : Value) (j : Nat) (hne : h ≠ g) (hz : w.heap[h]? = some o) : (w.setCell ⟨g, j, none⟩ v).heap[h]? = some o := (Below.heap_setCell w ⟨g, j, none⟩ v h hne).trans hz
/-- Two blocks of two cells each, stored into one behind the other. -/
theorem four_set {w : World} {g h t t' : Nat} {a b c d : Value} (hne : h ≠ g) (hz : w.heap[g]? = some (.cells #[a, b] t (0, 0))) (hy : w.heap[h]? = some (.cells #[c, d] t' (0, 0))) (p0 p1 q0 q1 : Value) :
    ((((w.setCell ⟨g, 0, none⟩ p0).setCell ⟨g, 1, none⟩ p1).setCell ⟨h, 0, none⟩ q0).setCell ⟨h, 1, none⟩ q1).cell? ⟨g, 0, none⟩ = some p0 ∧
    ((((w.setCell ⟨g, 0, none⟩ p0).setCell ⟨g, 1, none⟩ p1).setCell ⟨h, 0, none⟩ q0).setCell ⟨h, 1, none⟩ q1).cell? ⟨g, 1, none⟩ = some p1 ∧
    ((((w.setCell ⟨g, 0, none⟩ p0).setCell ⟨g, 1, none⟩ p1).setCell ⟨h, 0, none⟩ q0).setCell ⟨h, 1, none⟩ q1).cell? ⟨h, 0, none⟩ = some q0 ∧
    ((((w.setCell ⟨g, 0, none⟩ p0).setCell ⟨g, 1, none⟩ p1).setCell ⟨h, 0, none⟩ q0).setCell ⟨h, 1, none⟩ q1).cell? ⟨h, 1, none⟩ = some q1 ∧
    ((w.setCell ⟨g, 0, none⟩ p0).setCell ⟨g, 1, none⟩ p1).cell? ⟨h, 0, none⟩ = some c ∧ ((w.setCell ⟨g, 0, none⟩ p0).setCell ⟨g, 1, none⟩ p1).cell? ⟨h, 1, none⟩ = some d ∧
    ((w.setCell ⟨g, 0, none⟩ p0).setCell ⟨g, 1, none⟩ p1).frozen? ⟨h, 0, none⟩ = false ∧ ((w.setCell ⟨g, 0, none⟩ p0).setCell ⟨g, 1, none⟩ p1).frozen? ⟨h, 1, none⟩ = false := by
  have e1 : (w.setCell ⟨g, 0, none⟩ p0).heap[g]? = some (.cells #[p0, b] t (0, 0)) := by simpa using blk_set hz 0 p0
  have e2 : ((w.setCell ⟨g, 0, none⟩ p0).setCell ⟨g, 1, none⟩ p1).heap[g]? = some (.cells #[p0, p1] t (0, 0)) := by simpa using blk_set e1 1 p1
  have f2 := set_other p1 1 hne (set_other p0 0 hne hy)
  have e3 := set_other q1 1 (Ne.symm hne) (set_other q0 0 (Ne.symm hne) e2)
  have f3 : (((w.setCell ⟨g, 0, none⟩ p0).setCell ⟨g, 1, none⟩ p1).setCell ⟨h, 0, none⟩ q0).heap[h]? = some (.cells #[q0, d] t' (0, 0)) := by simpa using blk_set f2 0 q0
  have f4 : ((((w.setCell ⟨g, 0, none⟩ p0).setCell ⟨g, 1, none⟩ p1).setCell ⟨h, 0, none⟩ q0).setCell ⟨h, 1, none⟩ q1).heap[h]? = some (.cells #[q0, q1] t' (0, 0)) := by simpa using blk_set f3 1 q1
  exact ⟨(blk_cell e3 0).trans rfl, (blk_cell e3 1).trans rfl, (blk_cell f4 0).trans rfl, (blk_cell f4 1).trans rfl, (blk_cell f2 0).trans rfl, (blk_cell f2 1).trans rfl, blk_frozen f2 0, blk_frozen f2 1⟩
theorem R_set4 {w : World} {g h base : Nat} {ok : Nat → Prop} {a b c d v : Value} {xs : List S25} (hr : Kd.R k25 25 w base ok v xs) (hne : h ≠ g) (hz : w.heap[g]? = some (.cells #[a, b] 38 (0, 0))) (hy : w.heap[h]? = some (.cells #[c, d] 38 (0, 0))) (p0 p1 q0 q1 : Value) :
    Kd.R k25 25 ((((w.setCell ⟨g, 0, none⟩ p0).setCell ⟨g, 1, none⟩ p1).setCell ⟨h, 0, none⟩ q0).setCell ⟨h, 1, none⟩ q1) base ok v xs :=
  R_set2 (R_set2 hr hz p0 p1) (set_other p1 1 hne (set_other p0 0 hne hy)) q0 q1

/-- The five blocks of Buy. -/
def B5 (n : Nat) (a0 a1 b0 b1 x0 x1 x2 x3 : Int) (V : World) : Prop :=
  V.heap[n]? = some (.cells #[.int .i64 a0, .int .i64 a1] 38 (0, 0)) ∧ V.heap[n + 1]? = some (.cells #[.int .i64 b0, .int .i64 b1] 38 (0, 0)) ∧ V.heap[n + 2]? = some (.cells #[.int .u32 x0, .int .u16 x1, .int .i64 x2, .int .i64 x3] 49 (0, 0)) ∧
    V.heap[n + 3]? = some (.cells #[.int .i64 0, .int .i64 0] 38 (0, 0)) ∧ V.heap[n + 4]? = some (.cells #[.int .i64 0, .int .i64 0] 38 (0, 0))
theorem B5.keep {n : Nat} {a0 a1 b0 b1 x0 x1 x2 x3 : Int} {V V' : World} (hb : Below V.heap.size V V') (h : B5 n a0 a1 b0 b1 x0 x1 x2 x3 V) : B5 n a0 a1 b0 b1 x0 x1 x2 x3 V' :=
  ⟨keepW hb h.1, keepW hb h.2.1, keepW hb h.2.2.1, keepW hb h.2.2.2.1, keepW hb h.2.2.2.2⟩
theorem B5.start (w : World) (a0 a1 b0 b1 x0 x1 x2 x3 : Int) : B5 w.heap.size a0 a1 b0 b1 x0 x1 x2 x3 (((((w.alloc (.cells #[.int .i64 a0, .int .i64 a1] 38)).alloc (.cells #[.int .i64 b0, .int .i64 b1] 38)).alloc (.cells #[.int .u32 x0, .int .u16 x1, .int .i64 x2, .int .i64 x3] 49)).alloc (.cells #[.int .i64 0, .int .i64 0] 38)).alloc (.cells #[.int .i64 0, .int .i64 0] 38)) := by
  refine ⟨alloc_old _ (alloc_old _ (alloc_old _ (alloc2_fst w _ _))), alloc_old _ (alloc_old _ (alloc_old _ (alloc2_new w _ _))), alloc_old _ (alloc_old _ (alloc3_new w _ _ _)), alloc_old _ ?_, ?_⟩
  · simpa using (MapKept.heap_alloc (((w.alloc (.cells #[.int .i64 a0, .int .i64 a1] 38)).alloc (.cells #[.int .i64 b0, .int .i64 b1] 38)).alloc (.cells #[.int .u32 x0, .int .u16 x1, .int .i64 x2, .int .i64 x3] 49)) (.cells #[.int .i64 0, .int .i64 0] 38)).1
  · simpa using (MapKept.heap_alloc ((((w.alloc (.cells #[.int .i64 a0, .int .i64 a1] 38)).alloc (.cells #[.int .i64 b0, .int .i64 b1] 38)).alloc (.cells #[.int .u32 x0, .int .u16 x1, .int .i64 x2, .int .i64 x3] 49)).alloc (.cells #[.int .i64 0, .int .i64 0] 38)) (.cells #[.int .i64 0, .int .i64 0] 38)).1
set_option maxRecDepth 100000 in
set_option maxHeartbeats 8000000 in
theorem buy_walk (a0 a1 b0 b1 : Int) (A : Option Addr) (c : Nat) (xs : List S25) (x0 x1 x2 x3 : Int) (w : World) (hL : Laid w) (hC : Kd.C k25 w A xs.length xs) (hc : xs.length ≤ c) (hlen : xs.length ≤ 1000) (q0 q1 q2 q3 q5 : Int) (q4 : List S25) (hr : buyS a0 a1 b0 b1 xs x0 x1 x2 x3 = (q0, q1, q2, q3, q4, q5)) :
    Calls Tryd.prog 31 #[.agg #[.int .i64 a0, .int .i64 a1], .agg #[.int .i64 b0, .int .i64 b1], .slice A xs.length c, .agg #[.int .u32 x0, .int .u16 x1, .int .i64 x2, .int .i64 x3]] w fun e w' => ∃ v0, e = .returned (.tuple #[.agg #[.int .i64 q0, .int .i64 q1], .agg #[.int .i64 q2, .int .i64 q3], v0, .int .i64 q5]) ∧ Kd.R k25 25 w' w.heap.size (fun _ => True) v0 q4 ∧ Below w.heap.size w w' := by
  have hu38 := Tryd.underlying38
  have hu49 := Tryd.underlying49
  have hu25 := Tryd.underlying25
  obtain ⟨b, hb⟩ : ∃ b, listOk x0 x1 x2 x3 = b := ⟨_, rfl⟩
  obtain ⟨s0, s1, s2, s3, s4, hs⟩ : ∃ s0 s1 s2 s3 s4, payS a0 a1 b0 b1 x3 = (s0, s1, s2, s3, s4) := ⟨_, _, _, _, _, rfl⟩
  obtain ⟨t1, t2, ht⟩ : ∃ t1 t2, cancelS xs x0 x1 x2 x3 = (t1, t2) := ⟨_, _, rfl⟩
  have HR := Aside0.mk (fun (V : World) (hv : Below w.heap.size w V) => shop_Right.calls 4 x0 x1 x2 x3 b V (Laid_below hL hv) (by rw [shop_ok, hb]))
  have HP := Aside0.mk (fun (V : World) (hv : Below w.heap.size w V) => accounts_Pay.calls a0 a1 b0 b1 x3 s0 s1 s2 s3 s4 V (Laid_below hL hv) (by rw [pay_ok, hs]))
  have HD := Aside0.mk (fun (V : World) (hv : Below w.heap.size w V) => cancel_done A c xs x0 x1 x2 x3 V (Laid_below hL hv) (Kd.C_below hC hv) hc hlen t1 t2 ht)
  unfold buyS at hr
  rw [hb, hs, ht] at hr
  have HQ := Aside0.mk hr
  have K0 := Aside0.mk (B5.start w a0 a1 b0 b1 x0 x1 x2 x3)
  have HB0 := Aside0.mk (below_alloc (below_alloc (below_three w (.cells #[.int .i64 a0, .int .i64 a1] 38) (.cells #[.int .i64 b0, .int .i64 b1] 38) (.cells #[.int .u32 x0, .int .u16 x1, .int .i64 x2, .int .i64 x3] 49)) (.cells #[.int .i64 0, .int .i64 0] 38)) (.cells #[.int .i64 0, .int .i64 0] 38))
  clear hb hs ht hL hC hr
  go_enter Tryd.func31, Tryd.ntmps31
  cases b with
  | false =>
    go_wp2_with (first
      | (go_at_call 41; refine (HR.out _ HB0.out).mono ?_; rintro e w1 ⟨rfl, hb⟩; have K1 := Aside0.mk (B5.keep hb K0.out); have HB1 := Aside0.mk (below_then HB0.out HB0.out.size hb); clear hb; have a0' := (blk_cell K1.out.1 0).trans rfl; have a1' := (blk_cell K1.out.1 1).trans rfl; have b0' := (blk_cell K1.out.2.1 0).trans rfl; have b1' := (blk_cell K1.out.2.1 1).trans rfl; have x3' := (blk_cell K1.out.2.2.1 3).trans rfl; have z0 := (blk_cell K1.out.2.2.2.1 0).trans rfl; have z1 := (blk_cell K1.out.2.2.2.1 1).trans rfl; have zf0 := blk_frozen K1.out.2.2.2.1 0; have zf1 := blk_frozen K1.out.2.2.2.1 1; have o0 := (blk_cell K1.out.2.2.2.2 0).trans rfl; have o1 := (blk_cell K1.out.2.2.2.2 1).trans rfl; have of0 := blk_frozen K1.out.2.2.2.2 0; have of1 := blk_frozen K1.out.2.2.2.2 1; have hne : w.heap.size + 4 ≠ w.heap.size + 3 := (by omega); obtain ⟨y0, y1, y2, y3, i0, i1, i2, i3⟩ := four_set hne K1.out.2.2.2.1 K1.out.2.2.2.2 (.int .i64 0) (.int .i64 0) (.int .i64 0) (.int .i64 0)))
    have hq := HQ.out
    simp at hq
    obtain ⟨rfl, rfl, rfl, rfl, rfl, rfl⟩ := hq
    refine bodyPost_ret (v := .tuple #[.agg #[.int .i64 0, .int .i64 0], .agg #[.int .i64 0, .int .i64 0], .slice none 0 0, .int .i64 150]) (by simp [results, Tryd.results31, go_sem, y0, y1, y2, y3]) rfl ⟨.slice none 0 0, rfl, Kd.R_nil _ _ _ _ _, ?_⟩
    exact below_set (below_set (below_set (below_set HB1.out (by omega)) (by omega)) (by omega)) (by omega)
  | true =>
    obtain ⟨q4, hq4⟩ : ∃ b, (s4 != 0) = b := ⟨_, rfl⟩
    have H4 := Aside0.mk hq4
    cases q4 with
    | true =>
      go_wp2_with (first
        | (go_at_call 41; refine (HR.out _ HB0.out).mono ?_; rintro e w1 ⟨rfl, hb⟩; have K1 := Aside0.mk (B5.keep hb K0.out); have HB1 := Aside0.mk (below_then HB0.out HB0.out.size hb); clear hb; have a0' := (blk_cell K1.out.1 0).trans rfl; have a1' := (blk_cell K1.out.1 1).trans rfl; have b0' := (blk_cell K1.out.2.1 0).trans rfl; have b1' := (blk_cell K1.out.2.1 1).trans rfl; have x3' := (blk_cell K1.out.2.2.1 3).trans rfl; have z0 := (blk_cell K1.out.2.2.2.1 0).trans rfl; have z1 := (blk_cell K1.out.2.2.2.1 1).trans rfl; have zf0 := blk_frozen K1.out.2.2.2.1 0; have zf1 := blk_frozen K1.out.2.2.2.1 1; have o0 := (blk_cell K1.out.2.2.2.2 0).trans rfl; have o1 := (blk_cell K1.out.2.2.2.2 1).trans rfl; have of0 := blk_frozen K1.out.2.2.2.2 0; have of1 := blk_frozen K1.out.2.2.2.2 1)
        | (go_at_call 64; refine (HP.out _ HB1.out).mono ?_; rintro e w2 ⟨rfl, hb⟩; have HW2 := Aside0.mk hb.size; have K2 := Aside0.mk (B5.keep (below_two w2 (.cells #[.int .i64 s0, .int .i64 s1] 38) (.cells #[.int .i64 s2, .int .i64 s3] 38)) (B5.keep hb K1.out)); have HB2 := Aside0.mk (below_alloc (below_alloc (below_then HB1.out HB1.out.size hb) (.cells #[.int .i64 s0, .int .i64 s1] 38)) (.cells #[.int .i64 s2, .int .i64 s3] 38)); have HX := Aside0.mk (alloc2_fst w2 (.cells #[.int .i64 s0, .int .i64 s1] 38) (.cells #[.int .i64 s2, .int .i64 s3] 38)); have HY := Aside0.mk (alloc2_new w2 (.cells #[.int .i64 s0, .int .i64 s1] 38) (.cells #[.int .i64 s2, .int .i64 s3] 38)); clear hb; have l0 := (blk_cell K2.out.2.2.1 0).trans rfl; have l1 := (blk_cell K2.out.2.2.1 1).trans rfl; have l2 := (blk_cell K2.out.2.2.1 2).trans rfl; have l3 := (blk_cell K2.out.2.2.1 3).trans rfl; have u0 := (blk_cell K2.out.2.2.2.1 0).trans rfl; have u1 := (blk_cell K2.out.2.2.2.1 1).trans rfl; have uf0 := blk_frozen K2.out.2.2.2.1 0; have uf1 := blk_frozen K2.out.2.2.2.1 1; have v0 := (blk_cell K2.out.2.2.2.2 0).trans rfl; have v1 := (blk_cell K2.out.2.2.2.2 1).trans rfl; have vf0 := blk_frozen K2.out.2.2.2.2 0; have vf1 := blk_frozen K2.out.2.2.2.2 1; have hne : w.heap.size + 4 ≠ w.heap.size + 3 := (by omega); obtain ⟨y0, y1, y2, y3, i0, i1, i2, i3⟩ := four_set hne K2.out.2.2.2.1 K2.out.2.2.2.2 (.int .i64 0) (.int .i64 0) (.int .i64 0) (.int .i64 0)))
      have h4 : ¬ s4 = 0 := by simpa using H4.out
      have hq := HQ.out
      simp [h4] at hq
      obtain ⟨rfl, rfl, rfl, rfl, rfl, rfl⟩ := hq
      refine bodyPost_ret (v := .tuple #[.agg #[.int .i64 0, .int .i64 0], .agg #[.int .i64 0, .int .i64 0], .slice none 0 0, .int .i64 s4]) (by simp [results, Tryd.results31, go_sem, y0, y1, y2, y3]) rfl ⟨.slice none 0 0, rfl, Kd.R_nil _ _ _ _ _, ?_⟩
      exact below_set (below_set (below_set (below_set HB2.out (by omega)) (by omega)) (by omega)) (by omega)
    | false =>
      obtain ⟨qt, hqt⟩ : ∃ b, (t2 != 0) = b := ⟨_, rfl⟩
      have HT := Aside0.mk hqt
      cases qt with
      | true =>
        go_wp2_with (first
          | (go_at_call 41; refine (HR.out _ HB0.out).mono ?_; rintro e w1 ⟨rfl, hb⟩; have K1 := Aside0.mk (B5.keep hb K0.out); have HB1 := Aside0.mk (below_then HB0.out HB0.out.size hb); clear hb; have a0' := (blk_cell K1.out.1 0).trans rfl; have a1' := (blk_cell K1.out.1 1).trans rfl; have b0' := (blk_cell K1.out.2.1 0).trans rfl; have b1' := (blk_cell K1.out.2.1 1).trans rfl; have x3' := (blk_cell K1.out.2.2.1 3).trans rfl; have z0 := (blk_cell K1.out.2.2.2.1 0).trans rfl; have z1 := (blk_cell K1.out.2.2.2.1 1).trans rfl; have zf0 := blk_frozen K1.out.2.2.2.1 0; have zf1 := blk_frozen K1.out.2.2.2.1 1; have o0 := (blk_cell K1.out.2.2.2.2 0).trans rfl; have o1 := (blk_cell K1.out.2.2.2.2 1).trans rfl; have of0 := blk_frozen K1.out.2.2.2.2 0; have of1 := blk_frozen K1.out.2.2.2.2 1)
          | (go_at_call 64; refine (HP.out _ HB1.out).mono ?_; rintro e w2 ⟨rfl, hb⟩; have HW2 := Aside0.mk hb.size; have K2 := Aside0.mk (B5.keep (below_two w2 (.cells #[.int .i64 s0, .int .i64 s1] 38) (.cells #[.int .i64 s2, .int .i64 s3] 38)) (B5.keep hb K1.out)); have HB2 := Aside0.mk (below_alloc (below_alloc (below_then HB1.out HB1.out.size hb) (.cells #[.int .i64 s0, .int .i64 s1] 38)) (.cells #[.int .i64 s2, .int .i64 s3] 38)); have HX := Aside0.mk (alloc2_fst w2 (.cells #[.int .i64 s0, .int .i64 s1] 38) (.cells #[.int .i64 s2, .int .i64 s3] 38)); have HY := Aside0.mk (alloc2_new w2 (.cells #[.int .i64 s0, .int .i64 s1] 38) (.cells #[.int .i64 s2, .int .i64 s3] 38)); clear hb; have l0 := (blk_cell K2.out.2.2.1 0).trans rfl; have l1 := (blk_cell K2.out.2.2.1 1).trans rfl; have l2 := (blk_cell K2.out.2.2.1 2).trans rfl; have l3 := (blk_cell K2.out.2.2.1 3).trans rfl; have u0 := (blk_cell K2.out.2.2.2.1 0).trans rfl; have u1 := (blk_cell K2.out.2.2.2.1 1).trans rfl; have uf0 := blk_frozen K2.out.2.2.2.1 0; have uf1 := blk_frozen K2.out.2.2.2.1 1; have v0 := (blk_cell K2.out.2.2.2.2 0).trans rfl; have v1 := (blk_cell K2.out.2.2.2.2 1).trans rfl; have vf0 := blk_frozen K2.out.2.2.2.2 0; have vf1 := blk_frozen K2.out.2.2.2.2 1)
          | (go_at_call 65; refine (HD.out _ HB2.out).mono ?_; rintro e w3 ⟨v3, rfl, hR, hb⟩; have K3 := Aside0.mk (B5.keep hb K2.out); have HX3 := keepW hb HX.out; have HY3 := keepW hb HY.out; have m0 := (blk_cell HX3 0).trans rfl; have m1 := (blk_cell HX3 1).trans rfl; have k0 := (blk_cell HY3 0).trans rfl; have k1 := (blk_cell HY3 1).trans rfl; have HR3 := Aside0.mk (Kd.R_lower hR HB2.out.size); have HB3 := Aside0.mk (below_then HB2.out HB2.out.size hb); clear hb hR; have f0 := (blk_cell K3.out.2.2.2.1 0).trans rfl; have f1 := (blk_cell K3.out.2.2.2.1 1).trans rfl; have ff0 := blk_frozen K3.out.2.2.2.1 0; have ff1 := blk_frozen K3.out.2.2.2.1 1; have g0 := (blk_cell K3.out.2.2.2.2 0).trans rfl; have g1 := (blk_cell K3.out.2.2.2.2 1).trans rfl; have gf0 := blk_frozen K3.out.2.2.2.2 0; have gf1 := blk_frozen K3.out.2.2.2.2 1; have hne : w.heap.size + 4 ≠ w.heap.size + 3 := (by omega); obtain ⟨y0, y1, y2, y3, i0, i1, i2, i3⟩ := four_set hne K3.out.2.2.2.1 K3.out.2.2.2.2 (.int .i64 0) (.int .i64 0) (.int .i64 0) (.int .i64 0)))
        have h4 : s4 = 0 := by simpa using H4.out
        have h5 : ¬ t2 = 0 := by simpa using HT.out
        have hq := HQ.out
        simp [h4, h5] at hq
        obtain ⟨rfl, rfl, rfl, rfl, rfl, rfl⟩ := hq
        refine bodyPost_ret (v := .tuple #[.agg #[.int .i64 0, .int .i64 0], .agg #[.int .i64 0, .int .i64 0], .slice none 0 0, .int .i64 t2]) (by simp [results, Tryd.results31, go_sem, y0, y1, y2, y3]) rfl ⟨.slice none 0 0, rfl, Kd.R_nil _ _ _ _ _, ?_⟩
        exact below_set (below_set (below_set (below_set HB3.out (by omega)) (by omega)) (by omega)) (by omega)
      | false =>
        go_wp2_with (first
          | (go_at_call 41; refine (HR.out _ HB0.out).mono ?_; rintro e w1 ⟨rfl, hb⟩; have K1 := Aside0.mk (B5.keep hb K0.out); have HB1 := Aside0.mk (below_then HB0.out HB0.out.size hb); clear hb; have a0' := (blk_cell K1.out.1 0).trans rfl; have a1' := (blk_cell K1.out.1 1).trans rfl; have b0' := (blk_cell K1.out.2.1 0).trans rfl; have b1' := (blk_cell K1.out.2.1 1).trans rfl; have x3' := (blk_cell K1.out.2.2.1 3).trans rfl; have z0 := (blk_cell K1.out.2.2.2.1 0).trans rfl; have z1 := (blk_cell K1.out.2.2.2.1 1).trans rfl; have zf0 := blk_frozen K1.out.2.2.2.1 0; have zf1 := blk_frozen K1.out.2.2.2.1 1; have o0 := (blk_cell K1.out.2.2.2.2 0).trans rfl; have o1 := (blk_cell K1.out.2.2.2.2 1).trans rfl; have of0 := blk_frozen K1.out.2.2.2.2 0; have of1 := blk_frozen K1.out.2.2.2.2 1)
          | (go_at_call 64; refine (HP.out _ HB1.out).mono ?_; rintro e w2 ⟨rfl, hb⟩; have HW2 := Aside0.mk hb.size; have K2 := Aside0.mk (B5.keep (below_two w2 (.cells #[.int .i64 s0, .int .i64 s1] 38) (.cells #[.int .i64 s2, .int .i64 s3] 38)) (B5.keep hb K1.out)); have HB2 := Aside0.mk (below_alloc (below_alloc (below_then HB1.out HB1.out.size hb) (.cells #[.int .i64 s0, .int .i64 s1] 38)) (.cells #[.int .i64 s2, .int .i64 s3] 38)); have HX := Aside0.mk (alloc2_fst w2 (.cells #[.int .i64 s0, .int .i64 s1] 38) (.cells #[.int .i64 s2, .int .i64 s3] 38)); have HY := Aside0.mk (alloc2_new w2 (.cells #[.int .i64 s0, .int .i64 s1] 38) (.cells #[.int .i64 s2, .int .i64 s3] 38)); clear hb; have l0 := (blk_cell K2.out.2.2.1 0).trans rfl; have l1 := (blk_cell K2.out.2.2.1 1).trans rfl; have l2 := (blk_cell K2.out.2.2.1 2).trans rfl; have l3 := (blk_cell K2.out.2.2.1 3).trans rfl; have u0 := (blk_cell K2.out.2.2.2.1 0).trans rfl; have u1 := (blk_cell K2.out.2.2.2.1 1).trans rfl; have uf0 := blk_frozen K2.out.2.2.2.1 0; have uf1 := blk_frozen K2.out.2.2.2.1 1; have v0 := (blk_cell K2.out.2.2.2.2 0).trans rfl; have v1 := (blk_cell K2.out.2.2.2.2 1).trans rfl; have vf0 := blk_frozen K2.out.2.2.2.2 0; have vf1 := blk_frozen K2.out.2.2.2.2 1)
          | (go_at_call 65; refine (HD.out _ HB2.out).mono ?_; rintro e w3 ⟨v3, rfl, hR, hb⟩; have K3 := Aside0.mk (B5.keep hb K2.out); have HX3 := keepW hb HX.out; have HY3 := keepW hb HY.out; have m0 := (blk_cell HX3 0).trans rfl; have m1 := (blk_cell HX3 1).trans rfl; have k0 := (blk_cell HY3 0).trans rfl; have k1 := (blk_cell HY3 1).trans rfl; have HR3 := Aside0.mk (Kd.R_lower hR HB2.out.size); have HB3 := Aside0.mk (below_then HB2.out HB2.out.size hb); clear hb hR; have f0 := (blk_cell K3.out.2.2.2.1 0).trans rfl; have f1 := (blk_cell K3.out.2.2.2.1 1).trans rfl; have ff0 := blk_frozen K3.out.2.2.2.1 0; have ff1 := blk_frozen K3.out.2.2.2.1 1; have g0 := (blk_cell K3.out.2.2.2.2 0).trans rfl; have g1 := (blk_cell K3.out.2.2.2.2 1).trans rfl; have gf0 := blk_frozen K3.out.2.2.2.2 0; have gf1 := blk_frozen K3.out.2.2.2.2 1; have hne : w.heap.size + 4 ≠ w.heap.size + 3 := (by omega); obtain ⟨y0, y1, y2, y3, i0, i1, i2, i3⟩ := four_set (w := w3.drew) hne K3.out.2.2.2.1 K3.out.2.2.2.2 (.int .i64 s0) (.int .i64 s1) (.int .i64 s2) (.int .i64 s3); have hn2 : w2.heap.size + 1 ≠ w.heap.size + 3 := (by have := (Array.getElem?_eq_some_iff.1 K2.out.2.2.2.2).1; have h2 := HB1.out.size; have h3 := (Array.getElem?_eq_some_iff.1 K1.out.2.2.2.2).1; have h4 := HW2.out; omega); have kk := set_other (w := w3.drew.setCell ⟨w.heap.size + 3, 0, none⟩ (.int .i64 s0)) (.int .i64 s1) 1 hn2 (set_other (w := w3.drew) (.int .i64 s0) 0 hn2 HY3); have kk0 := (blk_cell kk 0).trans rfl; have kk1 := (blk_cell kk 1).trans rfl; clear kk))
        have h4 : s4 = 0 := by simpa using H4.out
        have h5 : t2 = 0 := by simpa using HT.out
        have hq := HQ.out
        simp [h4, h5] at hq
        obtain ⟨rfl, rfl, rfl, rfl, rfl, rfl⟩ := hq
        clear h4 h5
        go_region_with fail
        all_goals (
          go_wp2_with fail
          obtain ⟨r0, r1', r2', r3', _, _, _, _⟩ := four_set (w := w3) (g := w.heap.size + 1 + 1 + 1) (h := w.heap.size + 1 + 1 + 1 + 1) (by omega) K3.out.2.2.2.1 K3.out.2.2.2.2 (.int .i64 s0) (.int .i64 s1) (.int .i64 s2) (.int .i64 s3)
          have hR9 := Kd.R_drew (R_set4 (g := w.heap.size + 1 + 1 + 1) (h := w.heap.size + 1 + 1 + 1 + 1) HR3.out (by omega) K3.out.2.2.2.1 K3.out.2.2.2.2 (.int .i64 s0) (.int .i64 s1) (.int .i64 s2) (.int .i64 s3))
          have hB9 := below_drew1 (below_set (g := w.heap.size + 1 + 1 + 1 + 1) (j := 1) (v := .int .i64 s3) (below_set (g := w.heap.size + 1 + 1 + 1 + 1) (j := 0) (v := .int .i64 s2) (below_set (g := w.heap.size + 1 + 1 + 1) (j := 1) (v := .int .i64 s1) (below_set (g := w.heap.size + 1 + 1 + 1) (j := 0) (v := .int .i64 s0) HB3.out (by omega)) (by omega)) (by omega)) (by omega))
          refine bodyPost_ret (v := .tuple #[.agg #[.int .i64 s0, .int .i64 s1], .agg #[.int .i64 s2, .int .i64 s3], v3, .int .i64 0]) ?_ rfl ⟨v3, rfl, hR9, hB9⟩
          clear y0 y1 y2 y3 i0 i1 i2 i3 hR9 hB9
          simp [results, Tryd.results31, go_sem, r0, r1', r2', r3'])


def shop_Buy.f (a0_0 : Int) (a0_1 : Int) (a1_0 : Int) (a1_1 : Int) (l2 : List (S25)) (a3_0 : Int) (a3_1 : Int) (a3_2 : Int) (a3_3 : Int) : Option (Int × Int × Int × Int × (List (S25)) × Int) := if 1000 < l2.length then none else some (buyS a0_0 a0_1 a1_0 a1_1 l2 a3_0 a3_1 a3_2 a3_3)
theorem shop_Buy.calls (a0_0 : Int) (a0_1 : Int) (a1_0 : Int) (a1_1 : Int) (A2 : Option Addr) (c2 : Nat) (l2 : List (S25)) (a3_0 : Int) (a3_1 : Int) (a3_2 : Int) (a3_3 : Int) (r1 : Int) (r2 : Int) (r3 : Int) (r4 : Int) (r5 : List (S25)) (r6 : Int) (w : World) (hL : Laid w) (hr2 : Kd.C k25 w A2 l2.length l2) (hc2 : l2.length ≤ c2) (h : shop_Buy.f a0_0 a0_1 a1_0 a1_1 l2 a3_0 a3_1 a3_2 a3_3 = some (r1, r2, r3, r4, r5, r6)) :
    Calls Tryd.prog 31 #[.agg #[.int .i64 a0_0, .int .i64 a0_1], .agg #[.int .i64 a1_0, .int .i64 a1_1], .slice A2 l2.length c2, .agg #[.int .u32 a3_0, .int .u16 a3_1, .int .i64 a3_2, .int .i64 a3_3]] w fun e w' => ∃ v4_ : Value, e = .returned (.tuple #[.agg #[.int .i64 r1, .int .i64 r2], .agg #[.int .i64 r3, .int .i64 r4], v4_, .int .i64 r6]) ∧ Kd.R k25 25 w' w.heap.size (fun _ => True) v4_ r5 ∧ Below w.heap.size w w' := by
  unfold shop_Buy.f at h
  by_cases hs : 1000 < l2.length
  · rw [if_pos hs] at h; cases h
  · rw [if_neg hs] at h
    exact buy_walk a0_0 a0_1 a1_0 a1_1 A2 c2 l2 a3_0 a3_1 a3_2 a3_3 w hL hr2 hc2 (by omega) r1 r2 r3 r4 r6 r5 (Option.some.inj h)
end Go.Proofs.YtoclldkgkmhgaaaDoor.K
