/- Plain facts of shown and Same. -/
import Derived.Test.YtfncbcbhhddnpaaDoorQx6
import Derived.Test.YtfncbcbhhddnpaaDoorQx18
import Derived.Test.YtfncbcbhhddnpaaDoorMBytesP
namespace Go.Proofs.YtfncbcbhhddnpaaDoor.Pure
open Go.RowKit Go.Proofs.YtfncbcbhhddnpaaDoor.K Go.Proofs.YtfncbcbhhddnpaaDoor.Q Go.Proofs.YtfncbcbhhddnpaaDoorW.PrintWords Go.Proofs.YtfncbcbhhddnpaaDoorW.PrintLast Go.Proofs.YtfncbcbhhddnpaaDoorW.PrintMore
set_option linter.unusedVariables false
set_option linter.unusedSimpArgs false
theorem shownQ_true : Q.bazaarlaw11_shown.f = some true := by
  have e1 : addF 1152921504606846976 1 = (0, 111) := by decide
  have e2 : subF 1 2 = (0, 112) := by decide
  have e3 : moveF 5 1 2 = (3, 3, 0) := by decide
  simp [Q.bazaarlaw11_shown.f, money_Add.f, money_Sub.f, money_Move.f, e1, e2, e3]
theorem same_run (a b : List Int) (hab : a.length = b.length) (hl : a.length ≤ 1000) (d : Nat) : ∀ (j k : Nat), a.length = j + d → d + 1 ≤ k → Q.bazaarref11_Same.l0 k a b (j : Int) = some (decide (a.drop j = b.drop j)) := by
  induction d with
  | zero =>
    intro j k hj hk
    obtain ⟨k, rfl⟩ : ∃ q, k = q + 1 := ⟨k - 1, by omega⟩
    rw [Q.bazaarref11_Same.l0, if_neg (by omega), List.drop_eq_nil_of_le (by omega), List.drop_eq_nil_of_le (by omega)]
    rfl
  | succ d ih =>
    intro j k hj hk
    obtain ⟨k, rfl⟩ : ∃ q, k = q + 1 := ⟨k - 1, by omega⟩
    have ea : a.drop j = a[j] :: a.drop (j + 1) := List.drop_eq_getElem_cons (by omega)
    have eb : b.drop j = b[j] :: b.drop (j + 1) := List.drop_eq_getElem_cons (by omega)
    rw [Q.bazaarref11_Same.l0, if_pos (by omega), if_pos (by omega), if_pos (by omega), rd_nat a j (by omega), rd_nat b j (by omega), ea, eb]
    by_cases h : a[j] = b[j]
    · rw [if_pos h, wrap64_small (by omega) (by omega), show ((j : Int) + 1) = ((j + 1 : Nat) : Int) from by omega, ih (j + 1) k (by omega) (by omega)]
      congr 1
      rw [decide_eq_decide, List.cons.injEq]
      exact ⟨fun x => ⟨h, x⟩, fun x => x.2⟩
    · rw [if_neg h]
      congr 1
      symm
      rw [decide_eq_false_iff_not, List.cons.injEq]
      exact fun x => h x.1
theorem same_is (a b : List Int) (k : Nat) (hl : a.length ≤ 1000) (hk : a.length + 1 ≤ k) : Q.bazaarref11_Same.f k a b = some (decide (a = b)) := by
  unfold Q.bazaarref11_Same.f
  by_cases h : a.length = b.length
  · rw [if_pos (by omega)]
    have := same_run a b h hl a.length 0 k (by omega) hk
    simpa using this
  · rw [if_neg (by omega)]
    congr 1
    symm
    rw [decide_eq_false_iff_not]
    exact fun e => h (by rw [e])
end Go.Proofs.YtfncbcbhhddnpaaDoor.Pure
