/- money.told at each of the three package-level errors; the closures of money.Add, money.Sub; money.done around them. -/
import Derived.Test.YtgnjodocggihoaaDoorMIs
import Derived.Test.YtgnjodocggihoaaDoorKx3
import Derived.Deep.RegionWith
namespace Go.Proofs.YtgnjodocggihoaaDoor.K
open Go.RowKit Go.Proofs.YtgnjodocggihoaaDoorW.PrintWords Go.Proofs.YtgnjodocggihoaaDoorW.PrintLast Go.Proofs.YtgnjodocggihoaaDoorW.PrintMore
set_option linter.unusedVariables false
set_option linter.unusedSimpArgs false

set_option maxHeartbeats 2000000 in
theorem told_calls (a : Addr) (w : World) (c : Int) (hL : Laid w)
    (h : (c = 110 ∧ w.cell? ⟨0, 0, none⟩ = some (.iface 124 (.pointer (some a)))) ∨ (c = 111 ∧ w.cell? ⟨1, 0, none⟩ = some (.iface 124 (.pointer (some a)))) ∨ (c = 112 ∧ w.cell? ⟨2, 0, none⟩ = some (.iface 124 (.pointer (some a))))) :
    Calls Tryd.prog 71 #[.iface 124 (.pointer (some a))] w fun e w' => e = .returned (.int .i64 c) ∧ w' = w := by
  obtain ⟨a0, a1, a2, c0, c1, c2, t0, t1, t2, g0, g1, g2, n01, n02, n12, h0, h1, h2⟩ := hL
  have n10 : a1 ≠ a0 := fun e => n01 e.symm
  have n20 : a2 ≠ a0 := fun e => n02 e.symm
  have n21 : a2 ≠ a1 := fun e => n12 e.symm
  rcases h with ⟨rfl, h⟩ | ⟨rfl, h⟩ | ⟨rfl, h⟩
  · rw [g0] at h
    obtain rfl : a0 = a := by simpa using h
    clear h
    go_enter Tryd.func71, Tryd.ntmps71
    go_wp2_with (go_at_call 85; refine (is_same _ _).mono ?_; rintro e w1 ⟨rfl, rfl⟩)
    go_ret
    exact ⟨rfl, rfl⟩
  · rw [g1] at h
    obtain rfl : a1 = a := by simpa using h
    clear h
    go_enter Tryd.func71, Tryd.ntmps71
    go_wp2_with (go_at_call 85; first | (with_reducible refine (is_other a1 a0 _ _ _ _ _ n10 h1 h0).mono ?_; rintro e w1 ⟨rfl, rfl⟩) | (with_reducible refine (is_same _ _).mono ?_; rintro e w1 ⟨rfl, rfl⟩))
    go_ret
    exact ⟨rfl, rfl⟩
  · rw [g2] at h
    obtain rfl : a2 = a := by simpa using h
    clear h
    go_enter Tryd.func71, Tryd.ntmps71
    go_wp2_with (go_at_call 85; first | (with_reducible refine (is_other a2 a0 _ _ _ _ _ n20 h2 h0).mono ?_; rintro e w1 ⟨rfl, rfl⟩) | (with_reducible refine (is_other a2 a1 _ _ _ _ _ n21 h2 h1).mono ?_; rintro e w1 ⟨rfl, rfl⟩) | (with_reducible refine (is_same _ _).mono ?_; rintro e w1 ⟨rfl, rfl⟩))
    go_ret
    exact ⟨rfl, rfl⟩
end Go.Proofs.YtgnjodocggihoaaDoor.K
