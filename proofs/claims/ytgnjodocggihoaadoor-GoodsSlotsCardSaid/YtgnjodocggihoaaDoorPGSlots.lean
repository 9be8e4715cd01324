/- The plain law GoodsSlots. -/
import Derived.Test.YtgnjodocggihoaaDoorPGLaws
import Derived.Test.YtgnjodocggihoaaDoorGx19
namespace Go.Proofs.YtgnjodocggihoaaDoor.G
open Go.RowKit Go.Proofs.YtgnjodocggihoaaDoorW.PrintWords Go.Proofs.YtgnjodocggihoaaDoorW.PrintLast
set_option linter.unusedVariables false
set_option linter.unusedSimpArgs false

/-- The first n even items, one of each. -/
def evens (n : Nat) : List S42 := (List.range n).map fun i => ⟨((2 * i : Nat) : Int), 1⟩
theorem evens_len (n : Nat) : (evens n).length = n := by simp [evens]
theorem evens_succ (n : Nat) : evens (n + 1) = evens n ++ [⟨((2 * n : Nat) : Int), 1⟩] := by simp [evens, List.range_succ]
theorem evens_get (n i : Nat) (h : i < n) : (evens n).getD i z42 = ⟨((2 * i : Nat) : Int), 1⟩ := by
  simp [evens, List.getD_eq_getElem?_getD, List.getElem?_map, List.getElem?_range h]
theorem evens_srt (n : Nat) : Srt (evens n) := by
  refine srt_of_at _ (fun j hj => ?_) (fun i j hij hj => ?_)
  · rw [evens_len] at hj
    rw [evens_get n j hj]
    rfl
  · rw [evens_len] at hj
    rw [evens_get n j hj, evens_get n i (by omega)]
    show ((2 * i : Nat) : Int) < ((2 * j : Nat) : Int)
    omega
theorem count_append (it : Int) : ∀ (l : List S42) (s : S42), countS it (l ++ [s]) = if countS it l ≠ 0 then countS it l else (if (∃ t ∈ l, t.f0 = it) then countS it l else (if s.f0 = it then s.f1 else 0))
  | [], s => by simp [countS]
  | t :: l, s => by
    rw [List.cons_append, countS, countS, count_append it l s]
    by_cases h : t.f0 = it
    · simp [h]
    · simp [h]
theorem evens_count (a : Int) : ∀ n : Nat, countS a (evens n) = if 0 ≤ a ∧ a.tmod 2 = 0 ∧ a < 2 * n then 1 else 0
  | 0 => by
    rw [if_neg (by omega)]
    rfl
  | n + 1 => by
    rw [evens_succ, count_append, evens_count a n]
    by_cases h : 0 ≤ a ∧ a.tmod 2 = 0 ∧ a < 2 * (n : Int)
    · rw [if_pos h, if_pos (by decide), if_pos (by omega)]
    · rw [if_neg h, if_neg (by decide)]
      have hne : ¬ ∃ t ∈ evens n, t.f0 = a := by
        rintro ⟨t, ht, rfl⟩
        obtain ⟨i, hi, rfl⟩ := List.mem_map.1 ht
        have := List.mem_range.1 hi
        refine h ⟨by show (0 : Int) ≤ ((2 * i : Nat) : Int); omega, ?_, by show ((2 * i : Nat) : Int) < _; omega⟩
        show ((2 * i : Nat) : Int).tmod 2 = 0
        rw [Int.tmod_eq_emod_of_nonneg (by omega)]
        omega
      rw [if_neg hne]
      show (if ((2 * n : Nat) : Int) = a then (1 : Int) else 0) = _
      by_cases ha : ((2 * n : Nat) : Int) = a
      · rw [if_pos ha, if_pos]
        rw [Int.tmod_eq_emod_of_nonneg (by omega)]
        omega
      · rw [if_neg ha, if_neg]
        rintro ⟨e1, e2, e3⟩
        refine h ⟨e1, e2, ?_⟩
        rw [Int.tmod_eq_emod_of_nonneg e1] at e2
        omega

/-- What the law asks of goods of n stacks and an item. -/
theorem slots_give (n : Nat) (hn : n ≤ 20) (a : Int) (h0 : 0 ≤ a) (h40 : a ≤ 40) :
    (a.tmod 2 = 0 ∧ a < 2 * n ∧ giveS (evens n) a 5 = (putS a 6 (evens n), 0) ∧ countS a (evens n) = 1) ∨
    (¬ (a.tmod 2 = 0 ∧ a < 2 * n) ∧ n < 20 ∧ giveS (evens n) a 5 = (putS a 5 (evens n), 0) ∧ countS a (evens n) = 0) ∨
    (¬ (a.tmod 2 = 0 ∧ a < 2 * n) ∧ n = 20 ∧ giveS (evens n) a 5 = ([], 121) ∧ countS a (evens n) = 0) := by
  have hs := evens_srt n
  have hl := evens_len n
  have hc := evens_count a n
  by_cases h : a.tmod 2 = 0 ∧ a < 2 * (n : Int)
  · rw [if_pos ⟨h0, h⟩] at hc
    refine .inl ⟨h.1, h.2, ?_, hc⟩
    rw [give_ok (by omega) hs (by decide) (by rw [hc]; decide) (by rw [hc]; simp), hc]
    rfl
  · rw [if_neg (fun e => h e.2)] at hc
    by_cases h20 : n = 20
    · refine .inr (.inr ⟨h, h20, ?_, hc⟩)
      unfold giveS
      have hr : rightS (evens n) = true := (right_iff _).2 ⟨by omega, hs⟩
      have ha : Go.Proofs.YtgnjodocggihoaaDoor.K.addF 0 5 = (5, 0) := by decide
      rw [hr, hc, hl, ha, h20]
      simp [amtS]
    · refine .inr (.inl ⟨h, by omega, ?_, hc⟩)
      rw [give_ok (by omega) hs (by decide) (by rw [hc]; decide) (by rw [hc, hl]; omega), hc]
      rfl

theorem slots_l0 (n : Nat) (hn : n ≤ 20) (a : Int) (h0 : 0 ≤ a) (h40 : a ≤ 40) : ∀ (k i : Nat), i ≤ n → n < k + i → bazaarlaw12_GoodsSlots.l0 k (n : Int) a true (evens i) (i : Int) = some true
  | 0, i, hi, hk => by omega
  | k + 1, i, hi, hk => by
    rw [bazaarlaw12_GoodsSlots.l0]
    by_cases h : i < n
    · have e1 : wrap64 ((i : Int) + 1) = ((i + 1 : Nat) : Int) := by unfold wrap64; omega
      have e2 : IntKind.u16.wrap (wrap64 (2 * (i : Int))) = ((2 * i : Nat) : Int) := by
        have : wrap64 (2 * (i : Int)) = ((2 * i : Nat) : Int) := by unfold wrap64; omega
        rw [this, IntKind.wrap_u16]
        omega
      rw [if_pos (by omega), if_pos (by rw [evens_len]; omega), e1, e2, ← evens_succ]
      exact slots_l0 n hn a h0 h40 k (i + 1) (by omega) (by omega)
    · obtain rfl : i = n := by omega
      have hl := evens_len i
      have hg := give_len (l := evens i) (it := a) (n := 5)
      have w1 : wrap64 a = a := by unfold wrap64; omega
      have w2 : wrap64 (2 * (i : Int)) = 2 * i := by unfold wrap64; omega
      rw [if_neg (by omega), give_f (by omega), w1, w2]
      simp only [Option.bind_some]
      rcases slots_give i hn a h0 h40 with ⟨h1, h2, h3, h4⟩ | ⟨h1, h2, h3, h4⟩ | ⟨h1, h2, h3, h4⟩
      · rw [h3] at hg
        have hg' : (putS a 6 (evens i)).length ≤ 20 := hg
        rw [h3, if_pos h1, if_pos rfl, if_pos h2]
        simp only [beq_self_eq_true, if_true]
        rw [count_f (by omega), count_f (by omega), count_put a 6 (by decide) _ (evens_srt i), h4]
        simp
        unfold wrap64
        omega
      · rw [h3] at hg
        have hg' : (putS a 5 (evens i)).length ≤ 20 := hg
        have hd : decide ((i : Int) < 20) = true := decide_eq_true (by omega)
        rw [h3]
        by_cases hm : a.tmod 2 = 0
        · rw [if_pos hm, if_pos rfl, if_neg (fun e => h1 ⟨hm, e⟩), hd]
          simp only [beq_self_eq_true, if_true]
          rw [count_f (by omega), count_f (by omega), count_put a 5 (by decide) _ (evens_srt i), h4]
          simp
          unfold wrap64
          omega
        · rw [if_neg hm, if_pos rfl, hd]
          simp only [beq_self_eq_true, if_true]
          rw [count_f (by omega), count_f (by omega), count_put a 5 (by decide) _ (evens_srt i), h4]
          simp
          unfold wrap64
          omega
      · have hd : decide ((i : Int) < 20) = false := decide_eq_false (by omega)
        rw [h3]
        by_cases hm : a.tmod 2 = 0
        · rw [if_pos hm, if_pos rfl, if_neg (fun e => h1 ⟨hm, e⟩), hd]
          simp
        · rw [if_neg hm, if_pos rfl, hd]
          simp
theorem slots_f (k : Nat) (hk : 1100 ≤ k) (n a : Int) (h0 : 0 ≤ a) : bazaarlaw12_GoodsSlots.f k n a = some true := by
  obtain ⟨k, rfl⟩ : ∃ k', k = k' + 1 := ⟨k - 1, by omega⟩
  unfold bazaarlaw12_GoodsSlots.f
  rw [shown_f (k + 1) (by omega)]
  simp only [Option.bind_some, bazaarlaw12_GoodsSlots.j0]
  by_cases h1 : n < 0
  · simp [h1]
  · by_cases h2 : n > 20
    · simp [h1, h2]
    · by_cases h3 : a > 40
      · simp [h1, h2, h3]
      · obtain ⟨m, rfl⟩ : ∃ m : Nat, n = (m : Int) := ⟨n.toNat, by omega⟩
        have := slots_l0 m (by omega) a h0 (by omega) k 0 (by omega) (by omega)
        rw [if_neg h1, if_neg h2, decide_eq_false h3, if_neg (by decide)]
        exact this
end Go.Proofs.YtgnjodocggihoaaDoor.G
