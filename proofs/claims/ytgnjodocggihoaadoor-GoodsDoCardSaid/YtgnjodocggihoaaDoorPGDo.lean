/- The plain law GoodsDo. -/
import Derived.Test.YtgnjodocggihoaaDoorPGRef
import Derived.Test.YtgnjodocggihoaaDoorGx23
namespace Go.Proofs.YtgnjodocggihoaaDoor.G
open Go.RowKit Go.Proofs.YtgnjodocggihoaaDoorW.PrintWords Go.Proofs.YtgnjodocggihoaaDoorW.PrintLast
set_option linter.unusedVariables false
set_option linter.unusedSimpArgs false

theorem do_move (k : Nat) (hk : 2002 ≤ k) {a b : List S42} (ha : a.length ≤ 1000) (hb : b.length ≤ 1000) (it n : Int) :
    ∃ p q e, goods_Move.f a b it n = some (p, q, e) ∧ bazaarref12_Move.f k a b it n = some (p, q, e) ∧ p.length ≤ 21 ∧ q.length ≤ 21 := by
  unfold goods_Move.f bazaarref12_Move.f
  rw [take_f ha, gr_take ha _ _ k hk]
  have hl1 := take_len (l := a) (it := it) (n := n)
  simp only [Option.bind_some]
  by_cases h : (takeS a it n).2 = 0
  · rw [if_pos h, if_pos h, give_f hb, gr_give hb _ _ k hk]
    have hl2 := give_len (l := b) (it := it) (n := n)
    simp only [Option.bind_some]
    by_cases h2 : (giveS b it n).2 = 0
    · rw [if_pos h2]
      exact ⟨_, _, _, rfl, rfl, by omega, by omega⟩
    · rw [if_neg h2]
      exact ⟨_, _, _, rfl, rfl, by simp, by simp⟩
  · rw [if_neg h, if_neg h]
    exact ⟨_, _, _, rfl, rfl, by simp, by simp⟩
theorem gdo_f (k : Nat) (hk : 2100 ≤ k) (a b : List S42) (it n : Int) : bazaarlaw12_GoodsDo.f k a b it n = some true := by
  have ha := cut_len a
  have hb := cut_len b
  unfold bazaarlaw12_GoodsDo.f
  rw [shown_f k (by omega), cut_f, cut_f]
  simp only [Option.bind_some]
  generalize a.take 30 = a at *
  generalize b.take 30 = b at *
  obtain ⟨p, q, e, m1, m2, hp, hq⟩ := do_move k (by omega) (show a.length ≤ 1000 by omega) (show b.length ≤ 1000 by omega) it n
  have hl1 := take_len (l := a) (it := it) (n := n)
  have hl2 := give_len (l := a) (it := it) (n := n)
  rw [m1, m2, give_f (by omega), gr_give (by omega) _ _ k (by omega), take_f (by omega), gr_take (by omega) _ _ k (by omega), right_f (by omega), gr_right (by omega) k (by omega), count_f (by omega), gr_count (by omega) _ k (by omega)]
  simp only [Option.bind_some]
  rw [same_f (giveS a it n).1 (by omega) k (by omega), same_f (takeS a it n).1 (by omega) k (by omega), same_f p (by omega) k (by omega), same_f q (by omega) k (by omega)]
  simp
end Go.Proofs.YtgnjodocggihoaaDoor.G
