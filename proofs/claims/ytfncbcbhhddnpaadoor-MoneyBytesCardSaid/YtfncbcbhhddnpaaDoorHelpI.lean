/- A slice of whole numbers that came in. -/
import Derived.Test.YtfncbcbhhddnpaaDoorHelp
namespace Go.Proofs.YtfncbcbhhddnpaaDoor.K
open Go.RowKit Go.Proofs.YtfncbcbhhddnpaaDoorW.PrintWords Go.Proofs.YtfncbcbhhddnpaaDoorW.PrintLast Go.Proofs.YtfncbcbhhddnpaaDoorW.PrintMore
set_option linter.unusedVariables false

theorem ints_nil (k : IntKind) (W : World) : Kd.C (Kd.int k) W none 0 [] := ⟨rfl, by simp, fun h => absurd h (by simp)⟩
/-- A slice of whole numbers that came in: what its first 'len' cells hold. -/
theorem ints_row {k : IntKind} {W : World} (x : Addr) (l c : Nat) (zs : List Int) (hl : l ≤ c) (hm : c ≤ maxLen) (hz : zs.length = c) (hc : ∀ i, i < zs.length → W.cell? (x.add i) = some (.int k (zs.getD i 0))) :
    ∃ l0 : List Int, l0.length = l ∧ Kd.C (Kd.int k) W (some x) l0.length l0 ∧ l0.length ≤ c := by
  have hlen : (zs.take l).length = l := by rw [List.length_take]; omega
  refine ⟨zs.take l, hlen, ⟨rfl, by rw [hlen]; unfold maxLen at hm; omega, fun _ => ⟨x, rfl, fun j y hj => ⟨[.int k y], rfl, rfl, fun i u hu => ?_⟩⟩⟩, by omega⟩
  obtain ⟨rfl, rfl⟩ : i = 0 ∧ u = .int k y := by
    rcases i with _ | i
    · exact ⟨rfl, by simpa using hu.symm⟩
    · simp at hu
  rw [List.getElem?_take] at hj
  split at hj
  · obtain ⟨h1, h2⟩ := List.getElem?_eq_some_iff.1 hj
    have := hc j h1
    rw [List.getD_eq_getElem?_getD, hj] at this
    have e : (Kd.int k).sz = 1 := rfl
    rw [e]
    simpa using this
  · cases hj
end Go.Proofs.YtfncbcbhhddnpaaDoor.K
