/- MoneyTimes's plain law. -/
import Derived.Test.YtfncbcbhhddnpaaDoorKx17
import Derived.Test.YtfncbcbhhddnpaaDoorPLib
namespace Go.Proofs.YtfncbcbhhddnpaaDoor.Pure
open Go.RowKit Go.Proofs.YtfncbcbhhddnpaaDoor.K
set_option linter.unusedVariables false
set_option linter.unusedSimpArgs false
theorem times_run (a n : Int) (ha : amt a = true) (hn : 0 ≤ n ∧ n ≤ 40) (d : Nat) : ∀ (i : Int) (k : Nat), n = i + d → 0 ≤ i → a * i ≤ 1152921504606846976 → d + 2 ≤ k →
    bazaarlaw11_MoneyTimes.l0 k a n true (mulF a n).1 (mulF a n).2 (a * i) 0 i = some true := by
  have hA := (amt_iff a).1 ha
  have hN : amt n = true := (amt_iff n).2 (by omega)
  have over : 1152921504606846976 < a * n → mulF a n = (0, 111) := fun h => by
    rcases mul_cases a n with ⟨h1, h2, h3, e⟩ | ⟨h1, h2, h3, e⟩ | ⟨h1, e⟩
    · omega
    · exact e
    · exact absurd ⟨ha, hN⟩ h1
  induction d with
  | zero =>
    intro i k hi h0 hle hk
    obtain ⟨k, rfl⟩ : ∃ j, k = j + 1 := ⟨k - 1, by omega⟩
    have e : mulF a n = (a * n, 0) := by
      rcases mul_cases a n with ⟨h1, h2, h3, e⟩ | ⟨h1, h2, h3, e⟩ | ⟨h1, e⟩
      · exact e
      · rw [show n = i from by omega] at h3; omega
      · exact absurd ⟨ha, hN⟩ h1
    rw [bazaarlaw11_MoneyTimes.l0, if_neg (by omega), if_pos rfl, e, if_pos rfl, show n = i from by omega]
    simp
  | succ d ih =>
    intro i k hi h0 hle hk
    obtain ⟨k, rfl⟩ : ∃ j, k = j + 1 := ⟨k - 1, by omega⟩
    have hai : 0 ≤ a * i := Int.mul_nonneg hA.1 h0
    rw [bazaarlaw11_MoneyTimes.l0, if_pos (by omega), if_pos rfl]
    simp only [money_Add.f, Option.bind_some]
    have hs : a * (i + 1) = a * i + a := by rw [Int.mul_add, Int.mul_one]
    have hw : wrap64 (i + 1) = i + 1 := wrap64_small (by omega) (by omega)
    rw [hw]
    rcases add_cases (a * i) a with ⟨h1, h2, h3, e⟩ | ⟨h1, h2, h3, e⟩ | ⟨h1, e⟩
    · rw [e]
      simp only
      rw [← hs]
      exact ih (i + 1) k (by omega) (by omega) (by omega) (by omega)
    · rw [e]
      simp only
      have hbig : 1152921504606846976 < a * n := by
        have : a * (i + 1) ≤ a * n := Int.mul_le_mul_of_nonneg_left (by omega) hA.1
        omega
      obtain ⟨k, rfl⟩ : ∃ j, k = j + 1 := ⟨k - 1, by omega⟩
      rw [bazaarlaw11_MoneyTimes.l0, over hbig]
      simp
    · exact absurd ⟨(amt_iff _).2 ⟨hai, hle⟩, ha⟩ h1
theorem MoneyTimes (a n : Int) (wa : (Lit.int .i64 a).wf = true) (wn : (Lit.int .i64 n).wf = true) : bazaarlaw11_MoneyTimes.f 50 a n = some true := by
  simp only [bazaarlaw11_MoneyTimes.f, shown_true, Option.bind_some]
  by_cases h1 : n < 0
  · rw [if_pos h1, bazaarlaw11_MoneyTimes.j0, if_pos rfl]
  rw [if_neg h1]
  by_cases h2 : n > 40
  · rw [if_pos h2, bazaarlaw11_MoneyTimes.j0, if_pos rfl]
  rw [if_neg h2, right_amt]
  simp only [Option.bind_some]
  cases ha : amt a with
  | false => rw [bazaarlaw11_MoneyTimes.j0, if_pos (by simp)]
  | true =>
    rw [bazaarlaw11_MoneyTimes.j0, if_neg (by simp)]
    simp only [money_Mul.f, Option.bind_some]
    have := times_run a n ha (by omega) n.toNat 0 49 (by omega) (by omega) (by simp) (by omega)
    simpa using this
end Go.Proofs.YtfncbcbhhddnpaaDoor.Pure
