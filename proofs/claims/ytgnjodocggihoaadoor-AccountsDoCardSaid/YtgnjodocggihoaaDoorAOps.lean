/- accounts.Deposit, Withdraw, Earn, Spend: their contracts. -/
import Derived.Test.YtgnjodocggihoaaDoorADoes
namespace Go.Proofs.YtgnjodocggihoaaDoor.K
open Go.RowKit Go.Proofs.YtgnjodocggihoaaDoor.Rng Go.Proofs.YtgnjodocggihoaaDoorW.PrintWords Go.Proofs.YtgnjodocggihoaaDoorW.PrintLast Go.Proofs.YtgnjodocggihoaaDoorW.PrintMore
set_option linter.unusedVariables false
set_option linter.unusedSimpArgs false

def doesF (a b x y c : Int) : Int × Int × Int := if (addF a b).2 = 0 then (if c = 0 then (x, y, 0) else (0, 0, c)) else (0, 0, 130)
def depositF (a b n : Int) : Int × Int × Int := doesF a b (moveF a b n).1 (moveF a b n).2.1 (moveF a b n).2.2
def withdrawF (a b n : Int) : Int × Int × Int := doesF a b (moveF b a n).2.1 (moveF b a n).1 (moveF b a n).2.2
def earnF (a b n : Int) : Int × Int × Int := doesF a b (addF a n).1 b (if (addF a n).2 = 0 then (addF (addF a n).1 b).2 else (addF a n).2)
def spendF (a b n : Int) : Int × Int × Int := doesF a b (subF a n).1 b (subF a n).2
def accounts_Deposit.f (a0_0 : Int) (a0_1 : Int) (a1 : Int) : Option (Int × Int × Int) := some (depositF a0_0 a0_1 a1)
def accounts_Withdraw.f (a0_0 : Int) (a0_1 : Int) (a1 : Int) : Option (Int × Int × Int) := some (withdrawF a0_0 a0_1 a1)
def accounts_Earn.f (a0_0 : Int) (a0_1 : Int) (a1 : Int) : Option (Int × Int × Int) := some (earnF a0_0 a0_1 a1)
def accounts_Spend.f (a0_0 : Int) (a0_1 : Int) (a1 : Int) : Option (Int × Int × Int) := some (spendF a0_0 a0_1 a1)

theorem deposits_does (w0 : World) (g : Nat) (a b n : Int) (W : World) (hL0 : Laid w0) (hb0 : Below w0.heap.size w0 W) (hgb : w0.heap.size ≤ g) (hg : W.heap[g]? = some (.cells #[.int .i64 a, .int .i64 b] 58 (0, 0))) :
    Calls Tryd.prog 46 #[.pointer (some ⟨g, 0, none⟩), .func (.func 47) #[.pointer (some ⟨g, 0, none⟩)] #[], .int .i64 n] W fun e W' => e = .returned (.tuple #[.agg #[.int .i64 (depositF a b n).1, .int .i64 (depositF a b n).2.1], .int .i64 (depositF a b n).2.2]) ∧ Below g W W' := by
  unfold depositF doesF
  by_cases hr : (addF a b).2 = 0
  · rw [if_pos hr]
    obtain ⟨⟨x, y, c⟩, h⟩ : ∃ r, moveF a b n = r := ⟨_, rfl⟩
    simp only [h]
    refine (does_deposits w0 g a b n x y c (if c = 0 then (x, y, (0 : Int)) else (0, 0, c)).1 (if c = 0 then (x, y, (0 : Int)) else (0, 0, c)).2.1 W ?_ hL0 hb0 hgb hg hr (fun W1 hb hg => deposits_calls g a b n x y c W1 (Laid_below hL0 hb) hg h)).mono ?_
    rotate_right
    · rintro e W' ⟨rfl, hb⟩
      refine ⟨?_, hb⟩
      split
      · rename_i hc; rw [hc]
      · rfl
    · split
      · rename_i hc; exact .inl ⟨hc, rfl, rfl⟩
      · rename_i hc; exact .inr ⟨hc, rfl, rfl⟩
  · rw [if_neg hr]
    exact does_no _ w0 g a b n W hL0 hb0 hgb hg hr

set_option maxHeartbeats 4000000 in
theorem accounts_Deposit.calls (a0_0 : Int) (a0_1 : Int) (a1 : Int) (r1 : Int) (r2 : Int) (r3 : Int) (w : World) (hL : Laid w) (h : accounts_Deposit.f a0_0 a0_1 a1 = some (r1, r2, r3)) :
    Calls Tryd.prog 16 #[.agg #[.int .i64 a0_0, .int .i64 a0_1], .int .i64 a1] w fun e w' => e = .returned (.tuple #[.agg #[.int .i64 r1, .int .i64 r2], .int .i64 r3]) ∧ Below w.heap.size w w' := by
  have e1 : depositF a0_0 a0_1 a1 = (r1, r2, r3) := Option.some.inj h
  have HD := Aside0.mk (fun (W : World) (g : Nat) (hb : Below w.heap.size w W) (hg : w.heap.size ≤ g) hh => deposits_does w g a0_0 a0_1 a1 W hL hb hg hh)
  rw [e1] at HD
  clear h e1
  have hu58 := Tryd.underlying58
  have hu23 := Tryd.underlying23
  go_enter Tryd.func16, Tryd.ntmps16
  go_wp2_with (go_at_call 46; refine (HD.out _ (w.heap.size + 1 + 1) (below_alloc (below_alloc (below_alloc (Below.refl _ _) _) _) _) (by omega) (by have := (MapKept.heap_alloc ((w.alloc (.cells #[.int .i64 a0_0, .int .i64 a0_1] 23)).alloc (.cells #[.int .i64 0, .int .i64 0] 23)) (.cells #[.int .i64 a0_0, .int .i64 a0_1] 58)).1; simpa using this)).mono ?_; rintro e w1 ⟨rfl, hb⟩; have hq := (hb.block (w.heap.size + 1) (by omega)).trans (alloc_old _ (alloc2_new w (.cells #[.int .i64 a0_0, .int .i64 a0_1] 23) (.cells #[.int .i64 0, .int .i64 0] 23))); have q0 := (blk_cell hq 0).trans rfl; have q1 := (blk_cell hq 1).trans rfl; have f0 := blk_frozen hq 0; have f1 := blk_frozen hq 1; have HQ := Aside0.mk hq; have HB1 := Aside0.mk ((below_alloc (below_alloc (below_alloc (Below.refl w.heap.size w) (.cells #[.int .i64 a0_0, .int .i64 a0_1] 23)) (.cells #[.int .i64 0, .int .i64 0] 23)) (.cells #[.int .i64 a0_0, .int .i64 a0_1] 58)).trans (hb.mono (show w.heap.size ≤ w.heap.size + 1 + 1 by omega))); clear hb hq)
  have hz : ((w1.setCell ⟨w.heap.size + 1, 0, none⟩ (.int .i64 r1)).setCell ⟨w.heap.size + 1, 1, none⟩ (.int .i64 r2)).heap[w.heap.size + 1]? = some (.cells #[.int .i64 r1, .int .i64 r2] 23 (0, 0)) := by simpa using blk_set (blk_set HQ.out 0 (.int .i64 r1)) 1 (.int .i64 r2)
  have hb : Below w.heap.size w ((w1.setCell ⟨w.heap.size + 1, 0, none⟩ (.int .i64 r1)).setCell ⟨w.heap.size + 1, 1, none⟩ (.int .i64 r2)) := (HB1.out.setCell (Nat.le_succ _) _).setCell (Nat.le_succ _) _
  generalize (w1.setCell ⟨w.heap.size + 1, 0, none⟩ (.int .i64 r1)).setCell ⟨w.heap.size + 1, 1, none⟩ (.int .i64 r2) = Y at hz hb ⊢
  have z0 := (blk_cell hz 0).trans rfl
  have z1 := (blk_cell hz 1).trans rfl
  exact bodyPost_ret (v := .tuple #[.agg #[.int .i64 r1, .int .i64 r2], .int .i64 r3]) (by simp [results, Tryd.results16, go_sem, z0, z1]) rfl ⟨rfl, hb⟩
theorem withdraws_does (w0 : World) (g : Nat) (a b n : Int) (W : World) (hL0 : Laid w0) (hb0 : Below w0.heap.size w0 W) (hgb : w0.heap.size ≤ g) (hg : W.heap[g]? = some (.cells #[.int .i64 a, .int .i64 b] 58 (0, 0))) :
    Calls Tryd.prog 46 #[.pointer (some ⟨g, 0, none⟩), .func (.func 48) #[.pointer (some ⟨g, 0, none⟩)] #[], .int .i64 n] W fun e W' => e = .returned (.tuple #[.agg #[.int .i64 (withdrawF a b n).1, .int .i64 (withdrawF a b n).2.1], .int .i64 (withdrawF a b n).2.2]) ∧ Below g W W' := by
  unfold withdrawF doesF
  by_cases hr : (addF a b).2 = 0
  · rw [if_pos hr]
    obtain ⟨⟨y, x, c⟩, h⟩ : ∃ r, moveF b a n = r := ⟨_, rfl⟩
    simp only [h]
    refine (does_withdraws w0 g a b n x y c (if c = 0 then (x, y, (0 : Int)) else (0, 0, c)).1 (if c = 0 then (x, y, (0 : Int)) else (0, 0, c)).2.1 W ?_ hL0 hb0 hgb hg hr (fun W1 hb hg => withdraws_calls g a b n x y c W1 (Laid_below hL0 hb) hg h)).mono ?_
    rotate_right
    · rintro e W' ⟨rfl, hb⟩
      refine ⟨?_, hb⟩
      split
      · rename_i hc; rw [hc]
      · rfl
    · split
      · rename_i hc; exact .inl ⟨hc, rfl, rfl⟩
      · rename_i hc; exact .inr ⟨hc, rfl, rfl⟩
  · rw [if_neg hr]
    exact does_no _ w0 g a b n W hL0 hb0 hgb hg hr

set_option maxHeartbeats 4000000 in
theorem accounts_Withdraw.calls (a0_0 : Int) (a0_1 : Int) (a1 : Int) (r1 : Int) (r2 : Int) (r3 : Int) (w : World) (hL : Laid w) (h : accounts_Withdraw.f a0_0 a0_1 a1 = some (r1, r2, r3)) :
    Calls Tryd.prog 17 #[.agg #[.int .i64 a0_0, .int .i64 a0_1], .int .i64 a1] w fun e w' => e = .returned (.tuple #[.agg #[.int .i64 r1, .int .i64 r2], .int .i64 r3]) ∧ Below w.heap.size w w' := by
  have e1 : withdrawF a0_0 a0_1 a1 = (r1, r2, r3) := Option.some.inj h
  have HD := Aside0.mk (fun (W : World) (g : Nat) (hb : Below w.heap.size w W) (hg : w.heap.size ≤ g) hh => withdraws_does w g a0_0 a0_1 a1 W hL hb hg hh)
  rw [e1] at HD
  clear h e1
  have hu58 := Tryd.underlying58
  have hu23 := Tryd.underlying23
  go_enter Tryd.func17, Tryd.ntmps17
  go_wp2_with (go_at_call 46; refine (HD.out _ (w.heap.size + 1 + 1) (below_alloc (below_alloc (below_alloc (Below.refl _ _) _) _) _) (by omega) (by have := (MapKept.heap_alloc ((w.alloc (.cells #[.int .i64 a0_0, .int .i64 a0_1] 23)).alloc (.cells #[.int .i64 0, .int .i64 0] 23)) (.cells #[.int .i64 a0_0, .int .i64 a0_1] 58)).1; simpa using this)).mono ?_; rintro e w1 ⟨rfl, hb⟩; have hq := (hb.block (w.heap.size + 1) (by omega)).trans (alloc_old _ (alloc2_new w (.cells #[.int .i64 a0_0, .int .i64 a0_1] 23) (.cells #[.int .i64 0, .int .i64 0] 23))); have q0 := (blk_cell hq 0).trans rfl; have q1 := (blk_cell hq 1).trans rfl; have f0 := blk_frozen hq 0; have f1 := blk_frozen hq 1; have HQ := Aside0.mk hq; have HB1 := Aside0.mk ((below_alloc (below_alloc (below_alloc (Below.refl w.heap.size w) (.cells #[.int .i64 a0_0, .int .i64 a0_1] 23)) (.cells #[.int .i64 0, .int .i64 0] 23)) (.cells #[.int .i64 a0_0, .int .i64 a0_1] 58)).trans (hb.mono (show w.heap.size ≤ w.heap.size + 1 + 1 by omega))); clear hb hq)
  have hz : ((w1.setCell ⟨w.heap.size + 1, 0, none⟩ (.int .i64 r1)).setCell ⟨w.heap.size + 1, 1, none⟩ (.int .i64 r2)).heap[w.heap.size + 1]? = some (.cells #[.int .i64 r1, .int .i64 r2] 23 (0, 0)) := by simpa using blk_set (blk_set HQ.out 0 (.int .i64 r1)) 1 (.int .i64 r2)
  have hb : Below w.heap.size w ((w1.setCell ⟨w.heap.size + 1, 0, none⟩ (.int .i64 r1)).setCell ⟨w.heap.size + 1, 1, none⟩ (.int .i64 r2)) := (HB1.out.setCell (Nat.le_succ _) _).setCell (Nat.le_succ _) _
  generalize (w1.setCell ⟨w.heap.size + 1, 0, none⟩ (.int .i64 r1)).setCell ⟨w.heap.size + 1, 1, none⟩ (.int .i64 r2) = Y at hz hb ⊢
  have z0 := (blk_cell hz 0).trans rfl
  have z1 := (blk_cell hz 1).trans rfl
  exact bodyPost_ret (v := .tuple #[.agg #[.int .i64 r1, .int .i64 r2], .int .i64 r3]) (by simp [results, Tryd.results17, go_sem, z0, z1]) rfl ⟨rfl, hb⟩
theorem spends_does (w0 : World) (g : Nat) (a b n : Int) (W : World) (hL0 : Laid w0) (hb0 : Below w0.heap.size w0 W) (hgb : w0.heap.size ≤ g) (hg : W.heap[g]? = some (.cells #[.int .i64 a, .int .i64 b] 58 (0, 0))) :
    Calls Tryd.prog 46 #[.pointer (some ⟨g, 0, none⟩), .func (.func 50) #[.pointer (some ⟨g, 0, none⟩)] #[], .int .i64 n] W fun e W' => e = .returned (.tuple #[.agg #[.int .i64 (spendF a b n).1, .int .i64 (spendF a b n).2.1], .int .i64 (spendF a b n).2.2]) ∧ Below g W W' := by
  unfold spendF doesF
  by_cases hr : (addF a b).2 = 0
  · rw [if_pos hr]
    obtain ⟨⟨x, c⟩, h⟩ : ∃ r, subF a n = r := ⟨_, rfl⟩
    simp only [h]
    refine (does_spends w0 g a b n x b c (if c = 0 then (x, b, (0 : Int)) else (0, 0, c)).1 (if c = 0 then (x, b, (0 : Int)) else (0, 0, c)).2.1 W ?_ hL0 hb0 hgb hg hr (fun W1 hb hg => spends_calls g a b n x c W1 (Laid_below hL0 hb) hg h)).mono ?_
    rotate_right
    · rintro e W' ⟨rfl, hb⟩
      refine ⟨?_, hb⟩
      split
      · rename_i hc; rw [hc]
      · rfl
    · split
      · rename_i hc; exact .inl ⟨hc, rfl, rfl⟩
      · rename_i hc; exact .inr ⟨hc, rfl, rfl⟩
  · rw [if_neg hr]
    exact does_no _ w0 g a b n W hL0 hb0 hgb hg hr

set_option maxHeartbeats 4000000 in
theorem accounts_Spend.calls (a0_0 : Int) (a0_1 : Int) (a1 : Int) (r1 : Int) (r2 : Int) (r3 : Int) (w : World) (hL : Laid w) (h : accounts_Spend.f a0_0 a0_1 a1 = some (r1, r2, r3)) :
    Calls Tryd.prog 19 #[.agg #[.int .i64 a0_0, .int .i64 a0_1], .int .i64 a1] w fun e w' => e = .returned (.tuple #[.agg #[.int .i64 r1, .int .i64 r2], .int .i64 r3]) ∧ Below w.heap.size w w' := by
  have e1 : spendF a0_0 a0_1 a1 = (r1, r2, r3) := Option.some.inj h
  have HD := Aside0.mk (fun (W : World) (g : Nat) (hb : Below w.heap.size w W) (hg : w.heap.size ≤ g) hh => spends_does w g a0_0 a0_1 a1 W hL hb hg hh)
  rw [e1] at HD
  clear h e1
  have hu58 := Tryd.underlying58
  have hu23 := Tryd.underlying23
  go_enter Tryd.func19, Tryd.ntmps19
  go_wp2_with (go_at_call 46; refine (HD.out _ (w.heap.size + 1 + 1) (below_alloc (below_alloc (below_alloc (Below.refl _ _) _) _) _) (by omega) (by have := (MapKept.heap_alloc ((w.alloc (.cells #[.int .i64 a0_0, .int .i64 a0_1] 23)).alloc (.cells #[.int .i64 0, .int .i64 0] 23)) (.cells #[.int .i64 a0_0, .int .i64 a0_1] 58)).1; simpa using this)).mono ?_; rintro e w1 ⟨rfl, hb⟩; have hq := (hb.block (w.heap.size + 1) (by omega)).trans (alloc_old _ (alloc2_new w (.cells #[.int .i64 a0_0, .int .i64 a0_1] 23) (.cells #[.int .i64 0, .int .i64 0] 23))); have q0 := (blk_cell hq 0).trans rfl; have q1 := (blk_cell hq 1).trans rfl; have f0 := blk_frozen hq 0; have f1 := blk_frozen hq 1; have HQ := Aside0.mk hq; have HB1 := Aside0.mk ((below_alloc (below_alloc (below_alloc (Below.refl w.heap.size w) (.cells #[.int .i64 a0_0, .int .i64 a0_1] 23)) (.cells #[.int .i64 0, .int .i64 0] 23)) (.cells #[.int .i64 a0_0, .int .i64 a0_1] 58)).trans (hb.mono (show w.heap.size ≤ w.heap.size + 1 + 1 by omega))); clear hb hq)
  have hz : ((w1.setCell ⟨w.heap.size + 1, 0, none⟩ (.int .i64 r1)).setCell ⟨w.heap.size + 1, 1, none⟩ (.int .i64 r2)).heap[w.heap.size + 1]? = some (.cells #[.int .i64 r1, .int .i64 r2] 23 (0, 0)) := by simpa using blk_set (blk_set HQ.out 0 (.int .i64 r1)) 1 (.int .i64 r2)
  have hb : Below w.heap.size w ((w1.setCell ⟨w.heap.size + 1, 0, none⟩ (.int .i64 r1)).setCell ⟨w.heap.size + 1, 1, none⟩ (.int .i64 r2)) := (HB1.out.setCell (Nat.le_succ _) _).setCell (Nat.le_succ _) _
  generalize (w1.setCell ⟨w.heap.size + 1, 0, none⟩ (.int .i64 r1)).setCell ⟨w.heap.size + 1, 1, none⟩ (.int .i64 r2) = Y at hz hb ⊢
  have z0 := (blk_cell hz 0).trans rfl
  have z1 := (blk_cell hz 1).trans rfl
  exact bodyPost_ret (v := .tuple #[.agg #[.int .i64 r1, .int .i64 r2], .int .i64 r3]) (by simp [results, Tryd.results19, go_sem, z0, z1]) rfl ⟨rfl, hb⟩
theorem earns_does (w0 : World) (g : Nat) (a b n : Int) (W : World) (hL0 : Laid w0) (hb0 : Below w0.heap.size w0 W) (hgb : w0.heap.size ≤ g) (hg : W.heap[g]? = some (.cells #[.int .i64 a, .int .i64 b] 58 (0, 0))) :
    Calls Tryd.prog 46 #[.pointer (some ⟨g, 0, none⟩), .func (.func 49) #[.pointer (some ⟨g, 0, none⟩)] #[], .int .i64 n] W fun e W' => e = .returned (.tuple #[.agg #[.int .i64 (earnF a b n).1, .int .i64 (earnF a b n).2.1], .int .i64 (earnF a b n).2.2]) ∧ Below g W W' := by
  unfold earnF doesF
  by_cases hr : (addF a b).2 = 0
  · rw [if_pos hr]
    obtain ⟨⟨x, c⟩, h⟩ : ∃ r, addF a n = r := ⟨_, rfl⟩
    obtain ⟨⟨y, d⟩, h2⟩ : ∃ r, addF x b = r := ⟨_, rfl⟩
    simp only [h, h2]
    obtain ⟨C, hC⟩ : ∃ C, (if c = 0 then d else c) = C := ⟨_, rfl⟩
    simp only [hC]
    refine (does_earns w0 g a b n x b C (if C = 0 then (x, b, (0 : Int)) else (0, 0, C)).1 (if C = 0 then (x, b, (0 : Int)) else (0, 0, C)).2.1 W ?_ hL0 hb0 hgb hg hr (fun W1 hb hg => by have := earns_calls w0 g a b n x c y d W1 hL0 hb hgb hg h h2; rw [hC] at this; exact this)).mono ?_
    rotate_right
    · rintro e W' ⟨rfl, hb⟩
      refine ⟨?_, hb⟩
      split
      · rename_i hc; rw [hc]
      · rfl
    · split
      · rename_i hc; exact .inl ⟨hc, rfl, rfl⟩
      · rename_i hc; exact .inr ⟨hc, rfl, rfl⟩
  · rw [if_neg hr]
    exact does_no _ w0 g a b n W hL0 hb0 hgb hg hr

set_option maxHeartbeats 4000000 in
theorem accounts_Earn.calls (a0_0 : Int) (a0_1 : Int) (a1 : Int) (r1 : Int) (r2 : Int) (r3 : Int) (w : World) (hL : Laid w) (h : accounts_Earn.f a0_0 a0_1 a1 = some (r1, r2, r3)) :
    Calls Tryd.prog 18 #[.agg #[.int .i64 a0_0, .int .i64 a0_1], .int .i64 a1] w fun e w' => e = .returned (.tuple #[.agg #[.int .i64 r1, .int .i64 r2], .int .i64 r3]) ∧ Below w.heap.size w w' := by
  have e1 : earnF a0_0 a0_1 a1 = (r1, r2, r3) := Option.some.inj h
  have HD := Aside0.mk (fun (W : World) (g : Nat) (hb : Below w.heap.size w W) (hg : w.heap.size ≤ g) hh => earns_does w g a0_0 a0_1 a1 W hL hb hg hh)
  rw [e1] at HD
  clear h e1
  have hu58 := Tryd.underlying58
  have hu23 := Tryd.underlying23
  go_enter Tryd.func18, Tryd.ntmps18
  go_wp2_with (go_at_call 46; refine (HD.out _ (w.heap.size + 1 + 1) (below_alloc (below_alloc (below_alloc (Below.refl _ _) _) _) _) (by omega) (by have := (MapKept.heap_alloc ((w.alloc (.cells #[.int .i64 a0_0, .int .i64 a0_1] 23)).alloc (.cells #[.int .i64 0, .int .i64 0] 23)) (.cells #[.int .i64 a0_0, .int .i64 a0_1] 58)).1; simpa using this)).mono ?_; rintro e w1 ⟨rfl, hb⟩; have hq := (hb.block (w.heap.size + 1) (by omega)).trans (alloc_old _ (alloc2_new w (.cells #[.int .i64 a0_0, .int .i64 a0_1] 23) (.cells #[.int .i64 0, .int .i64 0] 23))); have q0 := (blk_cell hq 0).trans rfl; have q1 := (blk_cell hq 1).trans rfl; have f0 := blk_frozen hq 0; have f1 := blk_frozen hq 1; have HQ := Aside0.mk hq; have HB1 := Aside0.mk ((below_alloc (below_alloc (below_alloc (Below.refl w.heap.size w) (.cells #[.int .i64 a0_0, .int .i64 a0_1] 23)) (.cells #[.int .i64 0, .int .i64 0] 23)) (.cells #[.int .i64 a0_0, .int .i64 a0_1] 58)).trans (hb.mono (show w.heap.size ≤ w.heap.size + 1 + 1 by omega))); clear hb hq)
  have hz : ((w1.setCell ⟨w.heap.size + 1, 0, none⟩ (.int .i64 r1)).setCell ⟨w.heap.size + 1, 1, none⟩ (.int .i64 r2)).heap[w.heap.size + 1]? = some (.cells #[.int .i64 r1, .int .i64 r2] 23 (0, 0)) := by simpa using blk_set (blk_set HQ.out 0 (.int .i64 r1)) 1 (.int .i64 r2)
  have hb : Below w.heap.size w ((w1.setCell ⟨w.heap.size + 1, 0, none⟩ (.int .i64 r1)).setCell ⟨w.heap.size + 1, 1, none⟩ (.int .i64 r2)) := (HB1.out.setCell (Nat.le_succ _) _).setCell (Nat.le_succ _) _
  generalize (w1.setCell ⟨w.heap.size + 1, 0, none⟩ (.int .i64 r1)).setCell ⟨w.heap.size + 1, 1, none⟩ (.int .i64 r2) = Y at hz hb ⊢
  have z0 := (blk_cell hz 0).trans rfl
  have z1 := (blk_cell hz 1).trans rfl
  exact bodyPost_ret (v := .tuple #[.agg #[.int .i64 r1, .int .i64 r2], .int .i64 r3]) (by simp [results, Tryd.results18, go_sem, z0, z1]) rfl ⟨rfl, hb⟩
end Go.Proofs.YtgnjodocggihoaaDoor.K
