/- The closure of money.Mul. -/
import Derived.Test.YtfncbcbhhddnpaaDoorMDo
namespace Go.Proofs.YtfncbcbhhddnpaaDoor.K
open Go.RowKit Go.Proofs.YtfncbcbhhddnpaaDoorW.PrintWords Go.Proofs.YtfncbcbhhddnpaaDoorW.PrintLast Go.Proofs.YtfncbcbhhddnpaaDoorW.PrintMore
set_option linter.unusedVariables false
set_option linter.unusedSimpArgs false

theorem u64_nat {x : Nat} (h : x < 18446744073709551616) : IntKind.u64.wrap (x : Int) = (x : Int) := by
  rw [IntKind.wrap_u64]; omega

/-- Mul64's contract, its two results named. -/
theorem mul64_named (x y : Nat) (hi lo : Int) (hx : x < 18446744073709551616) (hy : y < 18446744073709551616) (h1 : ((x * y / 18446744073709551616 : Nat) : Int) = hi) (h2 : ((x * y % 18446744073709551616 : Nat) : Int) = lo) (w : World) :
    Calls Tryd.prog 30 #[.int .u64 x, .int .u64 y] w fun e w' => e = .returned (.tuple #[.int .u64 hi, .int .u64 lo]) ∧ w' = w := by
  subst h1 h2
  exact mul64_calls x y hx hy w

set_option maxHeartbeats 2000000 in
theorem mul1_ok (ga gb : Nat) (x y : Nat) (w : World) (ha : x ≤ 1152921504606846976) (hb : y ≤ 1152921504606846976) (h1 : w.cell? ⟨ga, 0, none⟩ = some (.int .i64 x)) (h2 : w.cell? ⟨gb, 0, none⟩ = some (.int .i64 y)) (lo : Nat) (h : x * y = lo) (hl : lo ≤ 1152921504606846976) :
    Calls Tryd.prog 29 #[.pointer (some ⟨ga, 0, none⟩), .pointer (some ⟨gb, 0, none⟩)] w fun e w' => e = .returned (.tuple #[.int .i64 lo, .nilIface]) ∧ Below w.heap.size w w' := by
  have ea := u64_nat (x := x) (by omega)
  have eb := u64_nat (x := y) (by omega)
  have hcv : IntKind.i64.wrap (lo : Int) = lo := by rw [IntKind.wrap_i64]; omega
  have hlt : decide (1152921504606846976 < (lo : Int)) = false := decide_eq_false (by omega)
  have HX := Aside0.mk (mul64_named x y 0 lo (by omega) (by omega) (by rw [h]; omega) (by rw [h]; omega))
  clear ha hb h
  go_enter Tryd.func29, Tryd.ntmps29
  go_wp2_with (go_at_call 30; refine (HX.out _).mono ?_; rintro e w1 ⟨rfl, rfl⟩)
  go_ret2
  exact ⟨rfl, Below.refl _ _⟩

set_option maxHeartbeats 2000000 in
theorem mul1_err (ga gb : Nat) (x y : Nat) (e : Addr) (w : World) (ha : x ≤ 1152921504606846976) (hb : y ≤ 1152921504606846976) (hx : w.cell? ⟨0, 0, none⟩ = some (.iface 72 (.pointer (some e)))) (h1 : w.cell? ⟨ga, 0, none⟩ = some (.int .i64 x)) (h2 : w.cell? ⟨gb, 0, none⟩ = some (.int .i64 y)) (h : 1152921504606846976 < x * y) :
    Calls Tryd.prog 29 #[.pointer (some ⟨ga, 0, none⟩), .pointer (some ⟨gb, 0, none⟩)] w fun r w' => r = .returned (.tuple #[.int .i64 0, .iface 72 (.pointer (some e))]) ∧ Below w.heap.size w w' := by
  have ea := u64_nat (x := x) (by omega)
  have eb := u64_nat (x := y) (by omega)
  obtain ⟨hi, ehi⟩ : ∃ hi : Int, ((x * y / 18446744073709551616 : Nat) : Int) = hi := ⟨_, rfl⟩
  obtain ⟨lo, elo⟩ : ∃ lo : Int, ((x * y % 18446744073709551616 : Nat) : Int) = lo := ⟨_, rfl⟩
  have HX := Aside0.mk (mul64_named x y hi lo (by omega) (by omega) ehi elo)
  have hc : 0 < hi ∨ (hi = 0 ∧ 1152921504606846976 < lo) := by omega
  clear ha hb h ehi elo
  rcases hc with hc | ⟨rfl, hc⟩
  · have hlt : decide (0 < hi) = true := decide_eq_true (by omega)
    clear hc
    go_enter Tryd.func29, Tryd.ntmps29
    go_wp2_with (go_at_call 30; refine (HX.out _).mono ?_; rintro e w1 ⟨rfl, rfl⟩)
    all_goals go_region_with fail
    all_goals (try go_wp2)
    all_goals go_ret2
    all_goals exact ⟨rfl, by first | exact Below.refl _ _ | exact below_drew1 (Below.refl _ _)⟩
  · have hlt : decide (1152921504606846976 < lo) = true := decide_eq_true (by omega)
    clear hc
    go_enter Tryd.func29, Tryd.ntmps29
    go_wp2_with (go_at_call 30; refine (HX.out _).mono ?_; rintro e w1 ⟨rfl, rfl⟩)
    all_goals go_region_with fail
    all_goals (try go_wp2)
    all_goals go_ret2
    all_goals exact ⟨rfl, by first | exact Below.refl _ _ | exact below_drew1 (Below.refl _ _)⟩
end Go.Proofs.YtfncbcbhhddnpaaDoor.K
