/- The closures of money.Add, money.Sub, money.Mul. -/
import Derived.Test.YtgnjodocggihoaaDoorMTold
import Derived.Shelf.Bits.Mul64
namespace Go.Proofs.YtgnjodocggihoaaDoor.K
open Go.RowKit Go.Proofs.YtgnjodocggihoaaDoorW.PrintWords Go.Proofs.YtgnjodocggihoaaDoorW.PrintLast Go.Proofs.YtgnjodocggihoaaDoorW.PrintMore
set_option linter.unusedVariables false
set_option linter.unusedSimpArgs false

theorem right_true {n : Int} (h : 0 ≤ n ∧ n ≤ 1152921504606846976) : money_Right.f n = some true := by
  unfold money_Right.f
  rw [if_pos (by omega)]
  simp [h.2]
theorem right_false {n : Int} (h : ¬ (0 ≤ n ∧ n ≤ 1152921504606846976)) : money_Right.f n = some false := by
  unfold money_Right.f
  by_cases h0 : n ≥ 0
  · rw [if_pos h0]
    have : ¬ n ≤ 1152921504606846976 := fun h1 => h ⟨h0, h1⟩
    simp [this]
  · rw [if_neg h0]

set_option maxHeartbeats 2000000 in
theorem add1_ok (ga gb : Nat) (a b : Int) (w : World) (hL : Laid w) (h1 : w.cell? ⟨ga, 0, none⟩ = some (.int .i64 a)) (h2 : w.cell? ⟨gb, 0, none⟩ = some (.int .i64 b)) (h : money_Right.f (wrap64 (a + b)) = some true) :
    Calls Tryd.prog 78 #[.pointer (some ⟨ga, 0, none⟩), .pointer (some ⟨gb, 0, none⟩)] w fun e w' => e = .returned (.tuple #[.int .i64 (wrap64 (a + b)), .nilIface]) ∧ Below w.heap.size w w' := by
  have HL := Aside0.mk hL
  have HR := Aside0.mk h
  clear hL h
  have k1 : ∀ w', Below w.heap.size w w' → w'.cell? ⟨ga, 0, none⟩ = some (.int .i64 a) := fun w' hb => (hb.cell (cell_lt h1)).trans h1
  have k2 : ∀ w', Below w.heap.size w w' → w'.cell? ⟨gb, 0, none⟩ = some (.int .i64 b) := fun w' hb => (hb.cell (cell_lt h2)).trans h2
  have K1 := Aside0.mk k1
  have K2 := Aside0.mk k2
  clear k1 k2
  go_enter Tryd.func78, Tryd.ntmps78
  go_wp2_with (go_at_call 75; with_reducible refine (money_Right.calls _ true _ (Laid_below HL.out (Below.refl _ _)) HR.out).mono ?_; rintro e w1 ⟨rfl, hb⟩; have q1 := K1.out _ hb; have q2 := K2.out _ hb)
  go_ret2
  exact ⟨rfl, hb⟩

set_option maxHeartbeats 2000000 in
theorem add1_err (ga gb : Nat) (a b : Int) (x : Addr) (w : World) (hL : Laid w) (hx : w.cell? ⟨1, 0, none⟩ = some (.iface 124 (.pointer (some x)))) (h1 : w.cell? ⟨ga, 0, none⟩ = some (.int .i64 a)) (h2 : w.cell? ⟨gb, 0, none⟩ = some (.int .i64 b)) (h : money_Right.f (wrap64 (a + b)) = some false) :
    Calls Tryd.prog 78 #[.pointer (some ⟨ga, 0, none⟩), .pointer (some ⟨gb, 0, none⟩)] w fun e w' => e = .returned (.tuple #[.int .i64 0, .iface 124 (.pointer (some x))]) ∧ Below w.heap.size w w' := by
  have HL := Aside0.mk hL
  have HR := Aside0.mk h
  clear hL h
  have k1 : ∀ w', Below w.heap.size w w' → w'.cell? ⟨1, 0, none⟩ = some (.iface 124 (.pointer (some x))) := fun w' hb => (hb.cell (cell_lt hx)).trans hx
  have K1 := Aside0.mk k1
  clear k1
  go_enter Tryd.func78, Tryd.ntmps78
  go_wp2_with (go_at_call 75; with_reducible refine (money_Right.calls _ false _ (Laid_below HL.out (Below.refl _ _)) HR.out).mono ?_; rintro e w1 ⟨rfl, hb⟩; have q1 := K1.out _ hb)
  all_goals go_region_with fail
  all_goals (try go_wp2)
  all_goals go_ret2
  all_goals exact ⟨rfl, by first | exact hb | exact below_drew1 hb⟩

set_option maxHeartbeats 2000000 in
theorem sub1_ok (ga gb : Nat) (a b : Int) (w : World) (hL : Laid w) (h1 : w.cell? ⟨ga, 0, none⟩ = some (.int .i64 a)) (h2 : w.cell? ⟨gb, 0, none⟩ = some (.int .i64 b)) (h : ¬ a < b) :
    Calls Tryd.prog 82 #[.pointer (some ⟨ga, 0, none⟩), .pointer (some ⟨gb, 0, none⟩)] w fun e w' => e = .returned (.tuple #[.int .i64 (wrap64 (a - b)), .nilIface]) ∧ Below w.heap.size w w' := by
  clear hL
  have hd : decide (a < b) = false := decide_eq_false h
  clear h
  go_enter Tryd.func82, Tryd.ntmps82
  go_wp2
  go_ret2
  exact ⟨rfl, Below.refl _ _⟩

set_option maxHeartbeats 2000000 in
theorem sub1_err (ga gb : Nat) (a b : Int) (x : Addr) (w : World) (hL : Laid w) (hx : w.cell? ⟨2, 0, none⟩ = some (.iface 124 (.pointer (some x)))) (h1 : w.cell? ⟨ga, 0, none⟩ = some (.int .i64 a)) (h2 : w.cell? ⟨gb, 0, none⟩ = some (.int .i64 b)) (h : a < b) :
    Calls Tryd.prog 82 #[.pointer (some ⟨ga, 0, none⟩), .pointer (some ⟨gb, 0, none⟩)] w fun e w' => e = .returned (.tuple #[.int .i64 0, .iface 124 (.pointer (some x))]) ∧ Below w.heap.size w w' := by
  clear hL
  have hd : decide (a < b) = true := decide_eq_true h
  clear h
  go_enter Tryd.func82, Tryd.ntmps82
  go_wp2
  all_goals go_region_with fail
  all_goals (try go_wp2)
  all_goals go_ret2
  all_goals exact ⟨rfl, by first | exact Below.refl _ _ | exact below_drew1 (Below.refl _ _)⟩

end Go.Proofs.YtgnjodocggihoaaDoor.K
