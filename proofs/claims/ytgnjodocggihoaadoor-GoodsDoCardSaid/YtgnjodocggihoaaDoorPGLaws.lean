/- Plain laws on goods: the reference's Same, and what is shown. -/
import Derived.Test.YtgnjodocggihoaaDoorPGoods
import Derived.Test.YtgnjodocggihoaaDoorGx14
namespace Go.Proofs.YtgnjodocggihoaaDoor.G
open Go.RowKit Go.Proofs.YtgnjodocggihoaaDoorW.PrintWords Go.Proofs.YtgnjodocggihoaaDoorW.PrintLast
set_option linter.unusedVariables false
set_option linter.unusedSimpArgs false

theorem same_l0 (xs : List S42) (hlen : xs.length ≤ 1000) : ∀ (k i : Nat), i ≤ xs.length → xs.length < k + i → bazaarref12_Same.l0 k xs xs (i : Int) = some true
  | 0, i, hi, hk => by omega
  | k + 1, i, hi, hk => by
    rw [bazaarref12_Same.l0]
    by_cases h : i < xs.length
    · have e1 : wrap64 ((i : Int) + 1) = ((i + 1 : Nat) : Int) := by unfold wrap64; omega
      rw [if_pos (by omega), if_pos (by omega), if_pos (by omega), e1, same_l0 xs hlen k (i + 1) (by omega) (by omega)]
      simp
    · rw [if_neg (by omega)]
theorem same_f (xs : List S42) (hlen : xs.length ≤ 1000) (k : Nat) (hk : 1001 ≤ k) : bazaarref12_Same.f k xs xs = some true := by
  unfold bazaarref12_Same.f
  rw [if_pos rfl]
  exact same_l0 xs hlen k 0 (by omega) (by omega)
theorem give_f {l : List S42} (h : l.length ≤ 1000) (it n : Int) : goods_Give.f l it n = some (giveS l it n) := by
  unfold goods_Give.f
  rw [if_neg (by omega)]
theorem take_f {l : List S42} (h : l.length ≤ 1000) (it n : Int) : goods_Take.f l it n = some (takeS l it n) := by
  unfold goods_Take.f
  rw [if_neg (by omega)]
theorem count_f {l : List S42} (h : l.length ≤ 1000) (it : Int) : goods_Count.f l it = some (countS it l) := by
  unfold goods_Count.f
  rw [if_neg (by omega)]
theorem right_f {l : List S42} (h : l.length ≤ 1000) : goods_Right.f l = some (rightS l) := by
  unfold goods_Right.f
  rw [if_neg (by omega)]
theorem cut_f (l : List S42) : bazaarlaw12_cut.f l = some (l.take 30) := rfl
theorem cut_len (l : List S42) : (l.take 30).length ≤ 30 := by rw [List.length_take]; omega

theorem shown_f (k : Nat) (hk : 1001 ≤ k) : bazaarlaw12_shown.f k = some true := by
  have g1 : giveS [⟨1, 3⟩, ⟨5, 2⟩] 2 4 = ([⟨1, 3⟩, ⟨2, 4⟩, ⟨5, 2⟩], 0) := by
    rw [give_ok (by decide) (by simp [Srt, amtS]) (by decide) (by simp [countS]) (by simp [countS])]
    simp [putS, countS]
  have g2 : takeS [⟨1, 3⟩, ⟨5, 2⟩] 5 2 = ([⟨1, 3⟩], 0) := by
    rw [take_ok (by decide) (by simp [Srt, amtS]) (by decide) (by simp [countS])]
    simp [putS, countS]
  have g3 : takeS [⟨1, 3⟩, ⟨5, 2⟩] 1 4 = ([], 122) := by
    have hr : rightS [⟨1, 3⟩, ⟨5, 2⟩] = true := (right_iff _).2 ⟨by decide, by simp [Srt, amtS]⟩
    unfold takeS
    rw [hr]
    simp [amtS, countS, K.subF, K.amt]
  unfold bazaarlaw12_shown.f
  simp only [Option.bind_some]
  rw [give_f (by decide), take_f (by decide), take_f (by decide), g1, g2, g3]
  simp only [Option.bind_some, if_true]
  rw [same_f _ (by decide) k hk]
  have ht : ([⟨1, 3⟩, ⟨5, 2⟩] : List S42).take 1 = [⟨1, 3⟩] := rfl
  rw [ht, same_f [⟨1, 3⟩] (by decide) k hk]
  simp
end Go.Proofs.YtgnjodocggihoaaDoor.G
