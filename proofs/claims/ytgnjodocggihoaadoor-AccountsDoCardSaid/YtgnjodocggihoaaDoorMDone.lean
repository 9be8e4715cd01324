/- money.Add, money.Sub, money.Mul: around money.done. -/
import Derived.Test.YtgnjodocggihoaaDoorMMul
import Derived.Test.YtgnjodocggihoaaDoorHelp
namespace Go.Proofs.YtgnjodocggihoaaDoor.K
open Go.RowKit Go.Proofs.YtgnjodocggihoaaDoorW.PrintWords Go.Proofs.YtgnjodocggihoaaDoorW.PrintLast Go.Proofs.YtgnjodocggihoaaDoorW.PrintMore
set_option linter.unusedVariables false
set_option linter.unusedSimpArgs false

/-- Is a number an amount? -/
def amt (n : Int) : Bool := decide (0 ≤ n ∧ n ≤ 1152921504606846976)
theorem right_amt (n : Int) : money_Right.f n = some (amt n) := by
  unfold amt
  by_cases h : 0 ≤ n ∧ n ≤ 1152921504606846976
  · rw [right_true h, decide_eq_true h]
  · rw [right_false h, decide_eq_false h]
theorem are_two (a b : Int) : money_are.f 4 [a, b] = some (amt a && amt b) := by
  simp only [money_are.f, money_are.l0, rd]
  simp [right_amt, wrap64]
  cases amt a <;> cases amt b <;> simp
theorem two_are (a b : Int) (W : World) (hL : Laid W) (g : Nat) (hb : W.heap[g]? = some (.cells #[.int .i64 a, .int .i64 b] 2 (0, 0))) :
    Calls Tryd.prog 70 #[.slice (some ⟨g, 0, none⟩) 2 2] W fun e w' => e = .returned (.bool (amt a && amt b)) ∧ Below W.heap.size W w' :=
  money_are.calls 4 _ 2 [a, b] _ W hL (C_of_block (Kd.int .i64) (fun x => [.int .i64 x]) hb [a, b] (fun _ => rfl) (fun _ => rfl) rfl (by simp)) (Nat.le_refl _) (are_two a b)

theorem cell_below {w w' : World} {a : Addr} {v : Value} (hb : Below w.heap.size w w') (h : w.cell? a = some v) : w'.cell? a = some v := (hb.cell (cell_lt h)).trans h

set_option maxHeartbeats 2000000 in
theorem done_bad_add (p q : Value) (a b : Int) (w : World) (hL : Laid w) (h : (amt a && amt b) = false) :
    Calls Tryd.prog 77 #[.int .i64 a, .int .i64 b, .func (.func 78) #[] #[p, q]] w fun e w' => e = .returned (.tuple #[.int .i64 0, .int .i64 110]) ∧ Below w.heap.size w w' := by
  have HA := fun g W hW hb => two_are a b W hW g hb
  rw [h] at HA
  have HA' := Aside0.mk HA
  have HL := Aside0.mk hL
  obtain ⟨x, hx⟩ : ∃ x, w.cell? ⟨0, 0, none⟩ = some (.iface 124 (.pointer (some x))) := by
    obtain ⟨a0, a1, a2, c0, c1, c2, t0, t1, t2, g0, _⟩ := hL
    exact ⟨a0, g0⟩
  have HX := Aside0.mk (fun (W : World) (hb : Below w.heap.size w W) => cell_below hb hx)
  clear HA h hL hx
  go_enter Tryd.func77, Tryd.ntmps77
  go_wp2_with (first
    | (go_at_call 70; refine (HA'.out _ _ (Laid_below HL.out (below_alloc (Below.refl _ _) _)) (MapKept.heap_alloc _ _).1).mono ?_; rintro e w1 ⟨rfl, hb1⟩; have hb1' := below_then (below_alloc (Below.refl w.heap.size w) _) (by simp) hb1; have hx1 := HX.out _ hb1'; clear hb1)
    | (go_at_call 71; refine (told_calls _ _ 110 (Laid_below HL.out hb1') (.inl ⟨rfl, HX.out _ hb1'⟩)).mono ?_; rintro e w2 ⟨rfl, rfl⟩))
  go_ret2
  exact ⟨rfl, hb1'⟩

set_option maxHeartbeats 2000000 in
theorem done_ok_add (p q : Value) (a b n : Int) (w : World) (hL : Laid w) (h : (amt a && amt b) = true) (hd : ∀ w1, Below w.heap.size w w1 → Calls Tryd.prog 78 #[p, q] w1 fun e w2 => e = .returned (.tuple #[.int .i64 n, .nilIface]) ∧ Below w1.heap.size w1 w2) :
    Calls Tryd.prog 77 #[.int .i64 a, .int .i64 b, .func (.func 78) #[] #[p, q]] w fun e w' => e = .returned (.tuple #[.int .i64 n, .int .i64 0]) ∧ Below w.heap.size w w' := by
  have HA := fun g W hW hb => two_are a b W hW g hb
  rw [h] at HA
  have HA' := Aside0.mk HA
  have HL := Aside0.mk hL
  have HD := Aside0.mk hd
  clear HA h hL hd
  go_enter Tryd.func77, Tryd.ntmps77
  go_wp2_with (first
    | (go_at_call 70; refine (HA'.out _ _ (Laid_below HL.out (below_alloc (Below.refl _ _) _)) (MapKept.heap_alloc _ _).1).mono ?_; rintro e w1 ⟨rfl, hb1⟩; have hb1' := below_then (below_alloc (Below.refl w.heap.size w) _) (by simp) hb1; clear hb1)
    | (go_at_call 78; refine (HD.out _ hb1').mono ?_; rintro e w2 ⟨rfl, hb2⟩; have hb2' := below_then hb1' hb1'.size hb2))
  go_ret2
  exact ⟨rfl, hb2'⟩

set_option maxHeartbeats 2000000 in
theorem done_err_add (p q : Value) (a b c : Int) (x : Addr) (w : World) (hL : Laid w) (h : (amt a && amt b) = true)
    (hx : (c = 110 ∧ w.cell? ⟨0, 0, none⟩ = some (.iface 124 (.pointer (some x)))) ∨ (c = 111 ∧ w.cell? ⟨1, 0, none⟩ = some (.iface 124 (.pointer (some x)))) ∨ (c = 112 ∧ w.cell? ⟨2, 0, none⟩ = some (.iface 124 (.pointer (some x)))))
    (hd : ∀ w1, Below w.heap.size w w1 → Calls Tryd.prog 78 #[p, q] w1 fun e w2 => e = .returned (.tuple #[.int .i64 0, .iface 124 (.pointer (some x))]) ∧ Below w1.heap.size w1 w2) :
    Calls Tryd.prog 77 #[.int .i64 a, .int .i64 b, .func (.func 78) #[] #[p, q]] w fun e w' => e = .returned (.tuple #[.int .i64 0, .int .i64 c]) ∧ Below w.heap.size w w' := by
  have HA := fun g W hW hb => two_are a b W hW g hb
  rw [h] at HA
  have HA' := Aside0.mk HA
  have HL := Aside0.mk hL
  have HD := Aside0.mk hd
  have HX := Aside0.mk (fun (W : World) (hb : Below w.heap.size w W) => hx.imp (And.imp_right (cell_below hb)) (Or.imp (And.imp_right (cell_below hb)) (And.imp_right (cell_below hb))))
  clear HA h hL hd hx
  go_enter Tryd.func77, Tryd.ntmps77
  go_wp2_with (first
    | (go_at_call 70; refine (HA'.out _ _ (Laid_below HL.out (below_alloc (Below.refl _ _) _)) (MapKept.heap_alloc _ _).1).mono ?_; rintro e w1 ⟨rfl, hb1⟩; have hb1' := below_then (below_alloc (Below.refl w.heap.size w) _) (by simp) hb1; clear hb1)
    | (go_at_call 78; refine (HD.out _ hb1').mono ?_; rintro e w2 ⟨rfl, hb2⟩; have hb2' := below_then hb1' hb1'.size hb2)
    | (go_at_call 71; refine (told_calls _ _ c (Laid_below HL.out hb2') (HX.out _ hb2')).mono ?_; rintro e w3 ⟨rfl, rfl⟩))
  go_ret2
  exact ⟨rfl, hb2'⟩

set_option maxHeartbeats 2000000 in
theorem done_bad_sub (p q : Value) (a b : Int) (w : World) (hL : Laid w) (h : (amt a && amt b) = false) :
    Calls Tryd.prog 77 #[.int .i64 a, .int .i64 b, .func (.func 82) #[] #[p, q]] w fun e w' => e = .returned (.tuple #[.int .i64 0, .int .i64 110]) ∧ Below w.heap.size w w' := by
  have HA := fun g W hW hb => two_are a b W hW g hb
  rw [h] at HA
  have HA' := Aside0.mk HA
  have HL := Aside0.mk hL
  obtain ⟨x, hx⟩ : ∃ x, w.cell? ⟨0, 0, none⟩ = some (.iface 124 (.pointer (some x))) := by
    obtain ⟨a0, a1, a2, c0, c1, c2, t0, t1, t2, g0, _⟩ := hL
    exact ⟨a0, g0⟩
  have HX := Aside0.mk (fun (W : World) (hb : Below w.heap.size w W) => cell_below hb hx)
  clear HA h hL hx
  go_enter Tryd.func77, Tryd.ntmps77
  go_wp2_with (first
    | (go_at_call 70; refine (HA'.out _ _ (Laid_below HL.out (below_alloc (Below.refl _ _) _)) (MapKept.heap_alloc _ _).1).mono ?_; rintro e w1 ⟨rfl, hb1⟩; have hb1' := below_then (below_alloc (Below.refl w.heap.size w) _) (by simp) hb1; have hx1 := HX.out _ hb1'; clear hb1)
    | (go_at_call 71; refine (told_calls _ _ 110 (Laid_below HL.out hb1') (.inl ⟨rfl, HX.out _ hb1'⟩)).mono ?_; rintro e w2 ⟨rfl, rfl⟩))
  go_ret2
  exact ⟨rfl, hb1'⟩

set_option maxHeartbeats 2000000 in
theorem done_ok_sub (p q : Value) (a b n : Int) (w : World) (hL : Laid w) (h : (amt a && amt b) = true) (hd : ∀ w1, Below w.heap.size w w1 → Calls Tryd.prog 82 #[p, q] w1 fun e w2 => e = .returned (.tuple #[.int .i64 n, .nilIface]) ∧ Below w1.heap.size w1 w2) :
    Calls Tryd.prog 77 #[.int .i64 a, .int .i64 b, .func (.func 82) #[] #[p, q]] w fun e w' => e = .returned (.tuple #[.int .i64 n, .int .i64 0]) ∧ Below w.heap.size w w' := by
  have HA := fun g W hW hb => two_are a b W hW g hb
  rw [h] at HA
  have HA' := Aside0.mk HA
  have HL := Aside0.mk hL
  have HD := Aside0.mk hd
  clear HA h hL hd
  go_enter Tryd.func77, Tryd.ntmps77
  go_wp2_with (first
    | (go_at_call 70; refine (HA'.out _ _ (Laid_below HL.out (below_alloc (Below.refl _ _) _)) (MapKept.heap_alloc _ _).1).mono ?_; rintro e w1 ⟨rfl, hb1⟩; have hb1' := below_then (below_alloc (Below.refl w.heap.size w) _) (by simp) hb1; clear hb1)
    | (go_at_call 82; refine (HD.out _ hb1').mono ?_; rintro e w2 ⟨rfl, hb2⟩; have hb2' := below_then hb1' hb1'.size hb2))
  go_ret2
  exact ⟨rfl, hb2'⟩

set_option maxHeartbeats 2000000 in
theorem done_err_sub (p q : Value) (a b c : Int) (x : Addr) (w : World) (hL : Laid w) (h : (amt a && amt b) = true)
    (hx : (c = 110 ∧ w.cell? ⟨0, 0, none⟩ = some (.iface 124 (.pointer (some x)))) ∨ (c = 111 ∧ w.cell? ⟨1, 0, none⟩ = some (.iface 124 (.pointer (some x)))) ∨ (c = 112 ∧ w.cell? ⟨2, 0, none⟩ = some (.iface 124 (.pointer (some x)))))
    (hd : ∀ w1, Below w.heap.size w w1 → Calls Tryd.prog 82 #[p, q] w1 fun e w2 => e = .returned (.tuple #[.int .i64 0, .iface 124 (.pointer (some x))]) ∧ Below w1.heap.size w1 w2) :
    Calls Tryd.prog 77 #[.int .i64 a, .int .i64 b, .func (.func 82) #[] #[p, q]] w fun e w' => e = .returned (.tuple #[.int .i64 0, .int .i64 c]) ∧ Below w.heap.size w w' := by
  have HA := fun g W hW hb => two_are a b W hW g hb
  rw [h] at HA
  have HA' := Aside0.mk HA
  have HL := Aside0.mk hL
  have HD := Aside0.mk hd
  have HX := Aside0.mk (fun (W : World) (hb : Below w.heap.size w W) => hx.imp (And.imp_right (cell_below hb)) (Or.imp (And.imp_right (cell_below hb)) (And.imp_right (cell_below hb))))
  clear HA h hL hd hx
  go_enter Tryd.func77, Tryd.ntmps77
  go_wp2_with (first
    | (go_at_call 70; refine (HA'.out _ _ (Laid_below HL.out (below_alloc (Below.refl _ _) _)) (MapKept.heap_alloc _ _).1).mono ?_; rintro e w1 ⟨rfl, hb1⟩; have hb1' := below_then (below_alloc (Below.refl w.heap.size w) _) (by simp) hb1; clear hb1)
    | (go_at_call 82; refine (HD.out _ hb1').mono ?_; rintro e w2 ⟨rfl, hb2⟩; have hb2' := below_then hb1' hb1'.size hb2)
    | (go_at_call 71; refine (told_calls _ _ c (Laid_below HL.out hb2') (HX.out _ hb2')).mono ?_; rintro e w3 ⟨rfl, rfl⟩))
  go_ret2
  exact ⟨rfl, hb2'⟩
end Go.Proofs.YtgnjodocggihoaaDoor.K
