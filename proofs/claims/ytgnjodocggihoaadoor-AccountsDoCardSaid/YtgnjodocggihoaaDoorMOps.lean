/- money.Add, money.Sub, money.Mul, money.Move: their contracts. -/
import Derived.Test.YtgnjodocggihoaaDoorMDone
namespace Go.Proofs.YtgnjodocggihoaaDoor.K
open Go.RowKit Go.Proofs.YtgnjodocggihoaaDoorW.PrintWords Go.Proofs.YtgnjodocggihoaaDoorW.PrintLast Go.Proofs.YtgnjodocggihoaaDoorW.PrintMore
set_option linter.unusedVariables false
set_option linter.unusedSimpArgs false

def addF (a b : Int) : Int × Int := if (amt a && amt b) = true then (if a + b ≤ 1152921504606846976 then (a + b, 0) else (0, 111)) else (0, 110)
def subF (a b : Int) : Int × Int := if (amt a && amt b) = true then (if a < b then (0, 112) else (a - b, 0)) else (0, 110)
def mulF (a b : Int) : Int × Int := if (amt a && amt b) = true then (if a * b ≤ 1152921504606846976 then (a * b, 0) else (0, 111)) else (0, 110)
def moveF (a b n : Int) : Int × Int × Int := if (subF a n).2 = 0 then (if (addF b n).2 = 0 then ((subF a n).1, (addF b n).1, 0) else (0, 0, (addF b n).2)) else (0, 0, (subF a n).2)
def money_Add.f (a b : Int) : Option (Int × Int) := some (addF a b)
def money_Sub.f (a b : Int) : Option (Int × Int) := some (subF a b)
def money_Mul.f (a b : Int) : Option (Int × Int) := some (mulF a b)
def money_Move.f (a b n : Int) : Option (Int × Int × Int) := some (moveF a b n)

theorem amt_two {a b : Int} (h : (amt a && amt b) = true) : (0 ≤ a ∧ a ≤ 1152921504606846976) ∧ (0 ≤ b ∧ b ≤ 1152921504606846976) := by
  unfold amt at h
  simpa using h
theorem wrap64_small {n : Int} (h0 : -4611686018427387904 ≤ n) (h1 : n ≤ 4611686018427387904) : wrap64 n = n := by unfold wrap64; omega
theorem cell_fst (w : World) (a b : Value) (t t' : TypeId) (w1 : World) (hb : Below ((w.alloc (.cells #[a] t)).alloc (.cells #[b] t')).heap.size ((w.alloc (.cells #[a] t)).alloc (.cells #[b] t')) w1) : w1.cell? ⟨w.heap.size, 0, none⟩ = some a :=
  (blk_cell ((hb.block _ (by simp; omega)).trans (alloc2_fst w _ _)) 0).trans rfl
theorem cell_snd (w : World) (a b : Value) (t t' : TypeId) (w1 : World) (hb : Below ((w.alloc (.cells #[a] t)).alloc (.cells #[b] t')).heap.size ((w.alloc (.cells #[a] t)).alloc (.cells #[b] t')) w1) : w1.cell? ⟨w.heap.size + 1, 0, none⟩ = some b :=
  (blk_cell ((hb.block _ (by simp)).trans (alloc2_new w _ _)) 0).trans rfl
theorem below_two (w : World) (X Y : Obj) : Below w.heap.size w ((w.alloc X).alloc Y) := below_alloc (below_alloc (Below.refl _ _) _) _
theorem laid_two {w : World} (X Y : Obj) (h : Laid w) : Laid ((w.alloc X).alloc Y) := Laid_below h (below_two w X Y)
theorem laid_amount {w : World} (h : Laid w) : ∃ x, w.cell? ⟨0, 0, none⟩ = some (.iface 124 (.pointer (some x))) := by
  obtain ⟨a0, a1, a2, c0, c1, c2, t0, t1, t2, g0, g1, g2, _⟩ := h
  exact ⟨a0, g0⟩
theorem laid_over {w : World} (h : Laid w) : ∃ x, w.cell? ⟨1, 0, none⟩ = some (.iface 124 (.pointer (some x))) := by
  obtain ⟨a0, a1, a2, c0, c1, c2, t0, t1, t2, g0, g1, g2, _⟩ := h
  exact ⟨a1, g1⟩
theorem laid_funds {w : World} (h : Laid w) : ∃ x, w.cell? ⟨2, 0, none⟩ = some (.iface 124 (.pointer (some x))) := by
  obtain ⟨a0, a1, a2, c0, c1, c2, t0, t1, t2, g0, g1, g2, _⟩ := h
  exact ⟨a2, g2⟩

/-- What done does with the closure over the two boxes. -/
theorem add_done (a b : Int) (w : World) (hL : Laid w) :
    Calls Tryd.prog 77 #[.int .i64 a, .int .i64 b, .func (.func 78) #[] #[.pointer (some ⟨w.heap.size, 0, none⟩), .pointer (some ⟨w.heap.size + 1, 0, none⟩)]] ((w.alloc (.cells #[.int .i64 a] 2)).alloc (.cells #[.int .i64 b] 2)) fun e w' => e = .returned (.tuple #[.int .i64 (addF a b).1, .int .i64 (addF a b).2]) ∧ Below w.heap.size w w' := by
  have hL2 := laid_two (.cells #[.int .i64 a] 2) (.cells #[.int .i64 b] 2) hL
  have up : ∀ w', Below ((w.alloc (.cells #[.int .i64 a] 2)).alloc (.cells #[.int .i64 b] 2)).heap.size ((w.alloc (.cells #[.int .i64 a] 2)).alloc (.cells #[.int .i64 b] 2)) w' → Below w.heap.size w w' := fun w' hb => below_then (below_two w _ _) (below_two w _ _).size hb
  by_cases h : (amt a && amt b) = true
  · obtain ⟨ha, hb⟩ := amt_two h
    by_cases hs : a + b ≤ 1152921504606846976
    · rw [show addF a b = (a + b, 0) from by unfold addF; rw [if_pos h, if_pos hs]]
      refine (done_ok_add _ _ a b (a + b) _ hL2 h fun w1 hb1 => ?_).mono fun e w' ⟨he, hb⟩ => ⟨he, up w' hb⟩
      have := add1_ok w.heap.size (w.heap.size + 1) a b w1 (Laid_below hL2 hb1) (cell_fst _ _ _ _ _ _ hb1) (cell_snd _ _ _ _ _ _ hb1) (by rw [wrap64_small (by omega) (by omega)]; exact right_true ⟨by omega, hs⟩)
      rw [wrap64_small (by omega) (by omega)] at this
      exact this
    · rw [show addF a b = (0, 111) from by unfold addF; rw [if_pos h, if_neg hs]]
      obtain ⟨x, hx⟩ := laid_over hL2
      refine (done_err_add _ _ a b 111 x _ hL2 h (.inr (.inl ⟨rfl, hx⟩)) fun w1 hb1 => ?_).mono fun e w' ⟨he, hb⟩ => ⟨he, up w' hb⟩
      exact add1_err w.heap.size (w.heap.size + 1) a b x w1 (Laid_below hL2 hb1) (cell_below hb1 hx) (cell_fst _ _ _ _ _ _ hb1) (cell_snd _ _ _ _ _ _ hb1) (by rw [wrap64_small (by omega) (by omega)]; exact right_false (by omega))
  · rw [show addF a b = (0, 110) from by unfold addF; rw [if_neg h]]
    exact (done_bad_add _ _ a b _ hL2 (by simpa using h)).mono fun e w' ⟨he, hb⟩ => ⟨he, up w' hb⟩

set_option maxHeartbeats 2000000 in
theorem money_Add.calls (a0 : Int) (a1 : Int) (r1 : Int) (r2 : Int) (w : World) (hL : Laid w) (h : money_Add.f a0 a1 = some (r1, r2)) :
    Calls Tryd.prog 61 #[.int .i64 a0, .int .i64 a1] w fun e w' => e = .returned (.tuple #[.int .i64 r1, .int .i64 r2]) ∧ Below w.heap.size w w' := by
  have e1 : addF a0 a1 = (r1, r2) := Option.some.inj h
  have HD := add_done a0 a1 w hL
  rw [e1] at HD
  have HD' := Aside0.mk HD
  clear HD h hL e1
  go_enter Tryd.func61, Tryd.ntmps61
  go_wp2_with (go_at_call 77; refine HD'.out.mono ?_; rintro e w1 ⟨rfl, hb⟩)
  go_ret2
  exact ⟨rfl, hb⟩

/-- What done does with the closure over the two boxes. -/
theorem sub_done (a b : Int) (w : World) (hL : Laid w) :
    Calls Tryd.prog 77 #[.int .i64 a, .int .i64 b, .func (.func 82) #[] #[.pointer (some ⟨w.heap.size, 0, none⟩), .pointer (some ⟨w.heap.size + 1, 0, none⟩)]] ((w.alloc (.cells #[.int .i64 a] 2)).alloc (.cells #[.int .i64 b] 2)) fun e w' => e = .returned (.tuple #[.int .i64 (subF a b).1, .int .i64 (subF a b).2]) ∧ Below w.heap.size w w' := by
  have hL2 := laid_two (.cells #[.int .i64 a] 2) (.cells #[.int .i64 b] 2) hL
  have up : ∀ w', Below ((w.alloc (.cells #[.int .i64 a] 2)).alloc (.cells #[.int .i64 b] 2)).heap.size ((w.alloc (.cells #[.int .i64 a] 2)).alloc (.cells #[.int .i64 b] 2)) w' → Below w.heap.size w w' := fun w' hb => below_then (below_two w _ _) (below_two w _ _).size hb
  by_cases h : (amt a && amt b) = true
  · obtain ⟨ha, hb⟩ := amt_two h
    by_cases hs : a < b
    · rw [show subF a b = (0, 112) from by unfold subF; rw [if_pos h, if_pos hs]]
      obtain ⟨x, hx⟩ := laid_funds hL2
      refine (done_err_sub _ _ a b 112 x _ hL2 h (.inr (.inr ⟨rfl, hx⟩)) fun w1 hb1 => ?_).mono fun e w' ⟨he, hb⟩ => ⟨he, up w' hb⟩
      exact sub1_err w.heap.size (w.heap.size + 1) a b x w1 (Laid_below hL2 hb1) (cell_below hb1 hx) (cell_fst _ _ _ _ _ _ hb1) (cell_snd _ _ _ _ _ _ hb1) hs
    · rw [show subF a b = (a - b, 0) from by unfold subF; rw [if_pos h, if_neg hs]]
      refine (done_ok_sub _ _ a b (a - b) _ hL2 h fun w1 hb1 => ?_).mono fun e w' ⟨he, hb⟩ => ⟨he, up w' hb⟩
      have := sub1_ok w.heap.size (w.heap.size + 1) a b w1 (Laid_below hL2 hb1) (cell_fst _ _ _ _ _ _ hb1) (cell_snd _ _ _ _ _ _ hb1) hs
      rw [wrap64_small (by omega) (by omega)] at this
      exact this
  · rw [show subF a b = (0, 110) from by unfold subF; rw [if_neg h]]
    exact (done_bad_sub _ _ a b _ hL2 (by simpa using h)).mono fun e w' ⟨he, hb⟩ => ⟨he, up w' hb⟩

set_option maxHeartbeats 2000000 in
theorem money_Sub.calls (a0 : Int) (a1 : Int) (r1 : Int) (r2 : Int) (w : World) (hL : Laid w) (h : money_Sub.f a0 a1 = some (r1, r2)) :
    Calls Tryd.prog 64 #[.int .i64 a0, .int .i64 a1] w fun e w' => e = .returned (.tuple #[.int .i64 r1, .int .i64 r2]) ∧ Below w.heap.size w w' := by
  have e1 : subF a0 a1 = (r1, r2) := Option.some.inj h
  have HD := sub_done a0 a1 w hL
  rw [e1] at HD
  have HD' := Aside0.mk HD
  clear HD h hL e1
  go_enter Tryd.func64, Tryd.ntmps64
  go_wp2_with (go_at_call 77; refine HD'.out.mono ?_; rintro e w1 ⟨rfl, hb⟩)
  go_ret2
  exact ⟨rfl, hb⟩
end Go.Proofs.YtgnjodocggihoaaDoor.K
