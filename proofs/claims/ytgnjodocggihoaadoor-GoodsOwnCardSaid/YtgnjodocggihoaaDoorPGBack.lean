/- Plain laws: GoodsBack, GoodsTwice, GoodsKeep, GoodsOwn. -/
import Derived.Test.YtgnjodocggihoaaDoorPGLaws
import Derived.Test.YtgnjodocggihoaaDoorGx16
import Derived.Test.YtgnjodocggihoaaDoorGx17
import Derived.Test.YtgnjodocggihoaaDoorGx20
import Derived.Test.YtgnjodocggihoaaDoorGx24
namespace Go.Proofs.YtgnjodocggihoaaDoor.G
open Go.RowKit Go.Proofs.YtgnjodocggihoaaDoorW.PrintWords Go.Proofs.YtgnjodocggihoaaDoorW.PrintLast
set_option linter.unusedVariables false
set_option linter.unusedSimpArgs false

theorem back_f (k : Nat) (hk : 1001 ≤ k) (l : List S42) (it n : Int) : bazaarlaw12_GoodsBack.f k l it n = some true := by
  have hl := cut_len l
  unfold bazaarlaw12_GoodsBack.f
  rw [shown_f k hk, cut_f]
  simp only [Option.bind_some, if_true]
  generalize l.take 30 = l at *
  have a1 := give_len (l := l) (it := it) (n := n)
  have a2 := take_len (l := l) (it := it) (n := n)
  rw [give_f (by omega), take_f (by omega)]
  simp only [Option.bind_some]
  rw [take_f (by omega), give_f (by omega)]
  simp only [Option.bind_some]
  obtain ⟨g1, g2, hg⟩ : ∃ a b, giveS l it n = (a, b) := ⟨_, _, rfl⟩
  obtain ⟨t1, t2, ht⟩ : ∃ a b, takeS l it n = (a, b) := ⟨_, _, rfl⟩
  rw [hg, ht]
  by_cases h1 : g2 = 0
  · subst h1
    rw [take_give hg]
    by_cases h2 : t2 = 0
    · subst h2
      rw [give_take ht]
      simp [same_f l (by omega) k hk]
    · simp [same_f l (by omega) k hk, h2]
  · by_cases h2 : t2 = 0
    · subst h2
      rw [give_take ht]
      simp [same_f l (by omega) k hk, h1]
    · simp [h1, h2]

theorem twice_f (k : Nat) (hk : 1002 ≤ k) (l : List S42) (it n m : Int) : bazaarlaw12_GoodsTwice.f k l it n m = some true := by
  have hl := cut_len l
  obtain ⟨k, rfl⟩ : ∃ k', k = k' + 1 := ⟨k - 1, by omega⟩
  unfold bazaarlaw12_GoodsTwice.f
  rw [shown_f (k + 1) (by omega), cut_f]
  simp only [Option.bind_some]
  generalize l.take 30 = l at *
  have a1 := give_len (l := l) (it := it) (n := n)
  rw [give_f (by omega)]
  simp only [Option.bind_some]
  rw [give_f (by omega)]
  simp only [Option.bind_some, bazaarlaw12_GoodsTwice.j0]
  rcases give_cases l it n with ⟨e, he, hne⟩ | ⟨h20, hs, h1, ho, hz, he⟩
  · rw [he]
    simp [hne]
  · rw [he] at a1 ⊢
    have a1' : (putS it (countS it l + n) l).length ≤ 20 := a1
    have hc := count_amt it l hs
    have hcp := count_put it (countS it l + n) (by omega) l hs
    simp only [if_true]
    rcases give_cases (putS it (countS it l + n) l) it m with ⟨e, he2, hne⟩ | ⟨h20', hs', h1', ho', hz', he2⟩
    · rw [he2]
      simp [hne]
    · rw [hcp] at ho' he2
      rw [he2, put_put it _ _ l hs]
      have hw : wrap64 (n + m) = n + m := by unfold wrap64; omega
      rw [hw, give_f (by omega), give_ok h20 hs (by omega) (by omega) hz]
      have hl3 := len_put it (countS it l + n + m) l hs
      have : (putS it (countS it l + n + m) l).length ≤ 1000 := by
        have h3 : (if countS it l + n + m > 0 then 1 else 0) ≤ 1 := by split <;> omega
        omega
      rw [show countS it l + (n + m) = countS it l + n + m by omega]
      simp [same_f _ this k (by omega)]

theorem keep_f (k : Nat) (hk : 1002 ≤ k) (a b : List S42) (it n it' : Int) : bazaarlaw12_GoodsKeep.f k a b it n it' = some true := by
  have ha := cut_len a
  have hb := cut_len b
  obtain ⟨k, rfl⟩ : ∃ k', k = k' + 1 := ⟨k - 1, by omega⟩
  unfold bazaarlaw12_GoodsKeep.f
  rw [shown_f (k + 1) (by omega), cut_f, cut_f]
  simp only [Option.bind_some]
  generalize a.take 30 = a at *
  generalize b.take 30 = b at *
  unfold goods_Move.f
  rw [take_f (by omega), give_f (by omega)]
  simp only [Option.bind_some]
  rcases take_cases a it n with ⟨e, he, hne⟩ | ⟨h20, hs, h1, ho, he⟩
  · rw [he]
    simp [hne]
  · have a2 := take_len (l := a) (it := it) (n := n)
    rw [he] at a2 ⊢
    have a2' : (putS it (countS it a - n) a).length ≤ 20 := a2
    simp only [if_true]
    rcases give_cases b it n with ⟨e, he2, hne⟩ | ⟨h20b, hsb, h1b, hob, hzb, he2⟩
    · rw [he2]
      simp [hne]
    · have a3 := give_len (l := b) (it := it) (n := n)
      rw [he2] at a3 ⊢
      have a3' : (putS it (countS it b + n) b).length ≤ 20 := a3
      have hca := count_amt it a hs
      have hcb := count_amt it b hsb
      have r1 : rightS (putS it (countS it a - n) a) = true := (right_iff _).2 ⟨a2', srt_put it _ (by omega) a hs⟩
      have r2 : rightS (putS it (countS it b + n) b) = true := (right_iff _).2 ⟨a3', srt_put it _ (by omega) b hsb⟩
      have w1 : wrap64 (countS it a - n + n) = countS it a := by unfold wrap64; omega
      have w2 : wrap64 (countS it b + n - n) = countS it b := by unfold wrap64; omega
      simp only [if_true, Option.bind_some]
      rw [right_f (by omega), r1]
      simp only [if_true, Option.bind_some]
      rw [right_f (by omega), r2]
      simp only [if_true, Option.bind_some]
      rw [count_f (by omega), count_f (by omega), count_f (by omega), count_f (by omega)]
      simp only [Option.bind_some]
      rw [count_put it _ (by omega) a hs, count_put it _ (by omega) b hsb, w1, w2]
      simp only [if_true, bazaarlaw12_GoodsKeep.j0]
      rw [count_f (by omega), count_f (by omega), count_f (by omega), count_f (by omega)]
      simp only [Option.bind_some]
      by_cases hi : it' = it
      · simp [hi]
      · rw [count_put_ne it _ it' hi, count_put_ne it _ it' hi]
        simp [hi]

theorem own_l1 (x0 : List S42) (h0 : x0.length ≤ 1000) : ∀ (k i : Nat) (l : List S42), l.length ≤ 20 → i ≤ l.length → l.length + 1001 < k + i → bazaarlaw12_GoodsOwn.l1 k x0 true x0 l (i : Int) = some true
  | 0, i, l, hl, hi, hk => by omega
  | k + 1, i, l, hl, hi, hk => by
    rw [bazaarlaw12_GoodsOwn.l1]
    by_cases h : i < l.length
    · have e1 : wrap64 ((i : Int) + 1) = ((i + 1 : Nat) : Int) := by unfold wrap64; omega
      rw [if_pos (by omega), if_pos (by omega), e1]
      exact own_l1 x0 h0 k (i + 1) _ (by rw [List.length_set]; exact hl) (by rw [List.length_set]; omega) (by rw [List.length_set]; omega)
    · rw [if_neg (by omega), if_pos rfl, same_f x0 h0 k (by omega)]
      rfl
theorem own_l0 (x0 : List S42) (h0 : x0.length ≤ 1000) (it n : Int) : ∀ (k i : Nat) (l : List S42), l.length ≤ 20 → i ≤ l.length → l.length + 1023 < k + i → bazaarlaw12_GoodsOwn.l0 k x0 true x0 l (i : Int) it n = some true
  | 0, i, l, hl, hi, hk => by omega
  | k + 1, i, l, hl, hi, hk => by
    rw [bazaarlaw12_GoodsOwn.l0]
    by_cases h : i < l.length
    · have e1 : wrap64 ((i : Int) + 1) = ((i + 1 : Nat) : Int) := by unfold wrap64; omega
      rw [if_pos (by omega), if_pos (by omega), e1]
      exact own_l0 x0 h0 it n k (i + 1) _ (by rw [List.length_set]; exact hl) (by rw [List.length_set]; omega) (by rw [List.length_set]; omega)
    · have a := take_len (l := x0) (it := it) (n := n)
      rw [if_neg (by omega), take_f h0]
      simp only [Option.bind_some]
      exact own_l1 x0 h0 k 0 _ a (by omega) (by omega)
theorem own_f (k : Nat) (hk : 1100 ≤ k) (l : List S42) (it n : Int) : bazaarlaw12_GoodsOwn.f k l it n = some true := by
  have hl := cut_len l
  unfold bazaarlaw12_GoodsOwn.f
  rw [shown_f k (by omega), cut_f]
  simp only [Option.bind_some]
  rw [cut_f, List.take_take]
  simp only [Option.bind_some, Nat.min_self]
  generalize l.take 30 = l at *
  have a1 := give_len (l := l) (it := it) (n := n)
  rw [give_f (by omega)]
  simp only [Option.bind_some]
  exact own_l0 l (by omega) it n k 0 _ a1 (by omega) (by omega)
end Go.Proofs.YtgnjodocggihoaaDoor.G
