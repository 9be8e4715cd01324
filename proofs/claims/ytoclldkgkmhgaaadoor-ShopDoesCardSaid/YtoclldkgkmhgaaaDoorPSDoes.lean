/- The plain law ShopDoes. -/
import Derived.Test.YtoclldkgkmhgaaaDoorPShopA
import Derived.Test.YtoclldkgkmhgaaaDoorPSRight
import Derived.Test.YtoclldkgkmhgaaaDoorPGRef
import Derived.Test.YtoclldkgkmhgaaaDoorPARef
import Derived.Test.YtoclldkgkmhgaaaDoorKx65
namespace Go.Proofs.YtoclldkgkmhgaaaDoor.K
open Go.RowKit Go.Proofs.YtoclldkgkmhgaaaDoorW.PrintWords Go.Proofs.YtoclldkgkmhgaaaDoorW.PrintLast
set_option linter.unusedVariables false
set_option linter.unusedSimpArgs false

theorem sd_list (k : Nat) (hk : 2002 ≤ k) {l : List S25} (hl : l.length ≤ 1000) (x0 x1 x2 x3 : Int) : bazaarref15_List.f k l x0 x1 x2 x3 = some (listS l x0 x1 x2 x3) := by
  unfold bazaarref15_List.f listS
  rw [sd_right, gr_take hl _ _ _ hk]
  simp only [Option.bind_some]
  by_cases h : listOk x0 x1 x2 x3 = true
  · rw [if_pos h, if_pos h]
  · rw [if_neg h, if_neg h]
theorem sd_cancel (k : Nat) (hk : 2002 ≤ k) {l : List S25} (hl : l.length ≤ 1000) (x0 x1 x2 x3 : Int) : bazaarref15_Cancel.f k l x0 x1 x2 x3 = some (cancelS l x0 x1 x2 x3) := by
  unfold bazaarref15_Cancel.f cancelS
  rw [sd_right, gr_give hl _ _ _ hk]
  simp only [Option.bind_some]
  by_cases h : listOk x0 x1 x2 x3 = true
  · rw [if_pos h, if_pos h]
  · rw [if_neg h, if_neg h]
theorem sd_pay (k : Nat) (a0 a1 b0 b1 n : Int) : bazaarref13_Pay.f (k + 2) a0 a1 b0 b1 n = some (payS a0 a1 b0 b1 n) := by
  unfold bazaarref13_Pay.f payS
  rw [ar_right, ar_right]
  simp only [Option.bind_some, bazaarref13_Pay.j0, okS]
  rw [ar_spend, ar_earn]
  simp only [Option.bind_some]
  by_cases hp : (addF a0 a1).2 = 0
  · by_cases hq : (addF b0 b1).2 = 0
    · by_cases h1 : (spendF a0 a1 n).2.2 = 0
      · by_cases h2 : (earnF b0 b1 n).2.2 = 0
        · simp [h1, h2, hp, hq]
        · simp [h1, h2, hp, hq]
      · simp [h1, hp, hq]
    · simp [hp, hq]
  · simp [hp]
theorem sd_buy (k : Nat) (hk : 2002 ≤ k) (a0 a1 b0 b1 : Int) {l : List S25} (hl : l.length ≤ 1000) (x0 x1 x2 x3 : Int) : bazaarref15_Buy.f k a0 a1 b0 b1 l x0 x1 x2 x3 = some (buyS a0 a1 b0 b1 l x0 x1 x2 x3) := by
  obtain ⟨j, rfl⟩ : ∃ j, k = j + 2 := ⟨k - 2, by omega⟩
  unfold bazaarref15_Buy.f buyS
  rw [sd_right, sd_pay, gr_give hl _ _ _ hk]
  simp only [Option.bind_some]
  by_cases h : listOk x0 x1 x2 x3 = true
  · have e : cancelS l x0 x1 x2 x3 = giveS l x1 x2 := by unfold cancelS; rw [if_pos h]
    rw [if_pos h, if_pos h, e]
    by_cases h1 : (payS a0 a1 b0 b1 x3).2.2.2.2 = 0
    · rw [if_pos h1, if_pos h1]
      by_cases h2 : (giveS l x1 x2).2 = 0
      · rw [if_pos h2, if_pos h2]
      · rw [if_neg h2, if_neg h2]
    · rw [if_neg h1, if_neg h1]
  · rw [if_neg h, if_neg h]
theorem buy_len (a0 a1 b0 b1 : Int) (l : List S25) (x0 x1 x2 x3 : Int) : (buyS a0 a1 b0 b1 l x0 x1 x2 x3).2.2.2.2.1.length ≤ 20 := by
  have := cancel_len l x0 x1 x2 x3
  unfold buyS
  split
  · split
    · split
      · exact this
      · simp
    · simp
  · simp
theorem does_f (k : Nat) (hk : 2100 ≤ k) (a0 a1 b0 b1 : Int) (l : List S25) (x0 x1 x2 x3 : Int) : bazaarlaw15_ShopDoes.f k a0 a1 b0 b1 l x0 x1 x2 x3 = some true := by
  have hl := cut15_len l
  unfold bazaarlaw15_ShopDoes.f
  rw [shown15_f k (by omega), cut15_f]
  simp only [Option.bind_some]
  generalize l.take 30 = l at *
  have h1 := list_len l x0 x1 x2 x3
  have h2 := cancel_len l x0 x1 x2 x3
  have h3 := buy_len a0 a1 b0 b1 l x0 x1 x2 x3
  rw [list_f (by omega), cancel_f (by omega), buy_f (by omega), sd_list k (by omega) (by omega), sd_cancel k (by omega) (by omega), sd_buy k (by omega) a0 a1 b0 b1 (by omega)]
  simp only [Option.bind_some]
  rw [same_f _ (by omega) k (by omega), same_f _ (by omega) k (by omega), same_f _ (by omega) k (by omega)]
  simp
end Go.Proofs.YtoclldkgkmhgaaaDoor.K
