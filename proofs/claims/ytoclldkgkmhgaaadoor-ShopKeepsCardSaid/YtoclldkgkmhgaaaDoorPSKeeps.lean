/- The plain law ShopKeeps. -/
import Derived.Test.YtoclldkgkmhgaaaDoorPShop
import Derived.Test.YtoclldkgkmhgaaaDoorPAcc
import Derived.Test.YtoclldkgkmhgaaaDoorKx57
namespace Go.Proofs.YtoclldkgkmhgaaaDoor.K
open Go.RowKit Go.Proofs.YtoclldkgkmhgaaaDoorW.PrintWords Go.Proofs.YtoclldkgkmhgaaaDoorW.PrintLast
open Go.Proofs.YtoclldkgkmhgaaaDoor.Pure (Acc spend_cases earn_cases)
set_option linter.unusedVariables false
set_option linter.unusedSimpArgs false

theorem srefcount_l0 (it : Int) (xs : List S25) (hlen : xs.length ≤ 1000) : ∀ (k i : Nat), i ≤ xs.length → xs.length < k + i → bazaarref12_Count.l0 k xs it (i : Int) = some (countS it (xs.drop i))
  | 0, i, hi, hk => by omega
  | k + 1, i, hi, hk => by
    rw [bazaarref12_Count.l0]
    by_cases h : i < xs.length
    · have e1 : wrap64 ((i : Int) + 1) = ((i + 1 : Nat) : Int) := by unfold wrap64; omega
      have e2 : rd_T25 xs (i : Int) = xs[i] := by unfold rd_T25; rw [Int.toNat_natCast, List.getD_eq_getElem?_getD, List.getElem?_eq_getElem h]; rfl
      rw [if_pos (by omega), if_pos (by omega), e1, srefcount_l0 it xs hlen k (i + 1) (by omega) (by omega), e2, List.drop_eq_getElem_cons h, countS]
      split <;> rfl
    · rw [if_neg (by omega), List.drop_eq_nil_of_le (by omega)]
      rfl
theorem srefcount_f {xs : List S25} (hlen : xs.length ≤ 1000) (it : Int) (k : Nat) (hk : 1001 ≤ k) : bazaarref12_Count.f k xs it = some (countS it xs) := by
  have := srefcount_l0 it xs hlen k 0 (by omega) (by omega)
  simpa [bazaarref12_Count.f] using this

theorem listing_fields {x0 x1 x2 x3 : Int} (h : listOk x0 x1 x2 x3 = true) : 1 ≤ x0 ∧ x0 ≤ 1000000 ∧ 1 ≤ x2 ∧ x2 ≤ 1152921504606846976 ∧ 0 ≤ x3 ∧ x3 ≤ 1152921504606846976 := by
  unfold listOk at h
  simp at h
  omega
theorem pay_cases (a0 a1 b0 b1 n : Int) : (∃ e, e ≠ 0 ∧ payS a0 a1 b0 b1 n = (0, 0, 0, 0, e)) ∨ (Acc a0 a1 ∧ Acc b0 b1 ∧ 0 ≤ n ∧ n ≤ a0 ∧ b0 + n + b1 ≤ 1152921504606846976 ∧ payS a0 a1 b0 b1 n = (a0 - n, a1, b0 + n, b1, 0)) := by
  unfold payS
  by_cases h : (okS ⟨a0, a1⟩ && okS ⟨b0, b1⟩) = true
  · rw [if_pos h]
    rcases spend_cases a0 a1 n with ⟨hA, h0, h1, he⟩ | ⟨e, hne, he⟩
    · rw [he, if_pos rfl]
      rcases earn_cases b0 b1 n with ⟨hB, _, h3, he2⟩ | ⟨e, hne, he2⟩
      · rw [he2, if_pos rfl]
        exact .inr ⟨hA, hB, h0, h1, h3, rfl⟩
      · rw [he2, if_neg hne]
        exact .inl ⟨e, hne, rfl⟩
    · rw [he, if_neg hne]
      exact .inl ⟨e, hne, rfl⟩
  · rw [if_neg h]
    exact .inl ⟨130, by decide, rfl⟩
theorem buy_cases (a0 a1 b0 b1 : Int) (l : List S25) (x0 x1 x2 x3 : Int) :
    (∃ e, e ≠ 0 ∧ buyS a0 a1 b0 b1 l x0 x1 x2 x3 = (0, 0, 0, 0, [], e)) ∨
    (listOk x0 x1 x2 x3 = true ∧ Acc a0 a1 ∧ Acc b0 b1 ∧ x3 ≤ a0 ∧ b0 + x3 + b1 ≤ 1152921504606846976 ∧ l.length ≤ 20 ∧ Srt l ∧ countS x1 l + x2 ≤ 1152921504606846976 ∧ buyS a0 a1 b0 b1 l x0 x1 x2 x3 = (a0 - x3, a1, b0 + x3, b1, putS x1 (countS x1 l + x2) l, 0)) := by
  unfold buyS
  by_cases h : listOk x0 x1 x2 x3 = true
  · rw [if_pos h]
    rcases pay_cases a0 a1 b0 b1 x3 with ⟨e, hne, he⟩ | ⟨hA, hB, h0, h1, h2, he⟩
    · rw [he, if_neg hne]
      exact .inl ⟨e, hne, rfl⟩
    · have hc : cancelS l x0 x1 x2 x3 = giveS l x1 x2 := by unfold cancelS; rw [if_pos h]
      rw [he, if_pos rfl, hc]
      rcases give_cases l x1 x2 with ⟨e, he2, hne⟩ | ⟨h20, hs, _, ho, _, he2⟩
      · rw [he2, if_neg hne]
        exact .inl ⟨e, hne, rfl⟩
      · rw [he2, if_pos rfl]
        exact .inr ⟨h, hA, hB, h1, h2, h20, hs, ho, rfl⟩
  · rw [if_neg h]
    exact .inl ⟨150, by decide, rfl⟩
theorem skeeps_f (k : Nat) (hk : 1001 ≤ k) (a0 a1 b0 b1 : Int) (l : List S25) (x0 x1 x2 x3 : Int) : bazaarlaw15_ShopKeeps.f k a0 a1 b0 b1 l x0 x1 x2 x3 = some true := by
  have hl := cut15_len l
  unfold bazaarlaw15_ShopKeeps.f
  rw [shown15_f k hk, cut15_f]
  simp only [Option.bind_some]
  generalize l.take 30 = l at *
  rw [buy_f (by omega)]
  simp only [Option.bind_some]
  rcases buy_cases a0 a1 b0 b1 l x0 x1 x2 x3 with ⟨e, hne, he⟩ | ⟨hx, hA, hB, h1, h2, h20, hs, ho, he⟩
  · rw [he, if_neg hne]
    simp
  · obtain ⟨f0, f1, f2, f3, f4, f5⟩ := listing_fields hx
    obtain ⟨c1, c2, c3⟩ := hA
    obtain ⟨d1, d2, d3⟩ := hB
    have hc := count_amt x1 l hs
    have w1 : wrap64 (a0 - x3) = a0 - x3 := by unfold wrap64; omega
    have w2 : wrap64 (b0 + x3) = b0 + x3 := by unfold wrap64; omega
    have w3 : wrap64 (countS x1 l + x2) = countS x1 l + x2 := by unfold wrap64; omega
    have hlen := len_put x1 (countS x1 l + x2) l hs
    have h3 : (if countS x1 l + x2 > 0 then 1 else 0) ≤ 1 := by split <;> omega
    rw [he, if_pos rfl, if_pos rfl, w1, w2]
    simp only [if_true]
    rw [srefcount_f (xs := putS x1 (countS x1 l + x2) l) (by omega) x1 k hk, srefcount_f (xs := l) (by omega) x1 k hk]
    simp only [Option.bind_some]
    rw [count_put x1 _ (by omega) l hs, w3]
    simp
end Go.Proofs.YtoclldkgkmhgaaaDoor.K
