/- The reference's goods: Right, with, Give, Take answer what the program's answer. -/
import Derived.Test.YtoclldkgkmhgaaaDoorPGLaws
import Derived.Test.YtoclldkgkmhgaaaDoorKx47
import Derived.Test.YtoclldkgkmhgaaaDoorKx43
namespace Go.Proofs.YtoclldkgkmhgaaaDoor.K
open Go.RowKit Go.Proofs.YtoclldkgkmhgaaaDoorW.PrintWords Go.Proofs.YtoclldkgkmhgaaaDoorW.PrintLast
open Go.Proofs.YtoclldkgkmhgaaaDoor.K (addF subF amt)
set_option linter.unusedVariables false
set_option linter.unusedSimpArgs false

theorem gr_amount (a : Int) : bazaarref12_amount.f a = some (amtS a) := by
  unfold bazaarref12_amount.f amtS
  by_cases h : a ≥ 1
  · rw [if_pos h]; simp [show (1 : Int) ≤ a from h]
  · rw [if_neg h]; simp [show ¬ (1 : Int) ≤ a from h]
theorem gr_rd (xs : List S25) (i : Nat) : rd_T25 xs (i : Int) = xs.getD i z25 := by
  unfold rd_T25
  rw [Int.toNat_natCast]
theorem gr_wrap (i : Nat) (h : i ≤ 1000000) : wrap64 ((i : Int) + 1) = ((i + 1 : Nat) : Int) := by unfold wrap64; omega
theorem okTo_le {xs : List S25} : ∀ (d i : Nat), okTo xs (i + d) = true → okTo xs i = true
  | 0, i, h => h
  | d + 1, i, h => by
    have h' : okTo xs ((i + d) + 1) = true := h
    rw [okTo_succ, Bool.and_eq_true] at h'
    exact okTo_le d i h'.1
theorem gr_right_l0 (xs : List S25) (hlen : xs.length ≤ 1000) : ∀ (k i : Nat), i ≤ xs.length → xs.length < k + i → okTo xs i = true → bazaarref12_Right.l0 k xs (i : Int) = some (okTo xs xs.length)
  | 0, i, hi, hk, ho => by omega
  | k + 1, i, hi, hk, ho => by
    rw [bazaarref12_Right.l0]
    by_cases h : i < xs.length
    · have hw := gr_wrap i (by omega)
      have hs := okTo_succ xs i
      rw [ho, Bool.true_and] at hs
      have hbad : badS (prevS xs i) (xs.getD i z25) = true → okTo xs xs.length = false := by
        intro hb
        rw [hb] at hs
        cases hq : okTo xs xs.length with
        | false => rfl
        | true =>
          have := okTo_le (xs := xs) (xs.length - (i + 1)) (i + 1) (by rw [show i + 1 + (xs.length - (i + 1)) = xs.length from by omega]; exact hq)
          rw [hs] at this
          cases this
      rw [if_pos (by omega), if_pos (by omega), gr_rd, gr_amount, hw]
      simp only [Option.bind_some]
      by_cases ha : amtS (xs.getD i z25).f1 = true
      · rw [if_pos ha]
        cases i with
        | zero =>
          have hb0 : badS (prevS xs 0) (xs.getD 0 z25) = false := by unfold badS; rw [ha]; simp [prevS, z25]
          rw [hb0] at hs
          rw [if_neg (by omega)]
          exact gr_right_l0 xs hlen k 1 (by omega) (by omega) hs
        | succ i =>
          have hp : prevS xs (i + 1) = xs.getD i z25 := rfl
          have e1 : wrap64 (((i + 1 : Nat) : Int) - 1) = (i : Int) := by unfold wrap64; omega
          have ho' := ho
          rw [okTo_succ, Bool.and_eq_true] at ho'
          have hpa : amtS (xs.getD i z25).f1 = true := by
            have := ho'.2
            unfold badS at this
            simp only [Bool.not_eq_true', Bool.or_eq_false_iff, Bool.not_eq_false'] at this
            exact this.1
          have hp1 := ((amtS_iff _).1 hpa).1
          have hz : ((xs.getD i z25).f0 == 0 && (xs.getD i z25).f1 == 0) = false := by
            have : ((xs.getD i z25).f1 == 0) = false := by simpa using (by omega : (xs.getD i z25).f1 ≠ 0)
            rw [this, Bool.and_false]
          have hbd : badS (prevS xs (i + 1)) (xs.getD (i + 1) z25) = decide ((xs.getD i z25).f0 ≥ (xs.getD (i + 1) z25).f0) := by
            rw [hp]
            unfold badS
            rw [ha, hz]
            simp
          rw [if_pos (by omega), e1, if_pos (by omega), if_pos (by omega), gr_rd]
          by_cases hle : (xs.getD (i + 1) z25).f0 ≤ (xs.getD i z25).f0
          · rw [if_pos hle, hbad (by rw [hbd]; exact decide_eq_true hle)]
          · rw [if_neg hle]
            rw [hbd, decide_eq_false (show ¬ (xs.getD i z25).f0 ≥ (xs.getD (i + 1) z25).f0 from hle)] at hs
            exact gr_right_l0 xs hlen k (i + 1 + 1) (by omega) (by omega) hs
      · rw [if_neg ha, hbad (by
          have : amtS (xs.getD i z25).f1 = false := by simpa using ha
          unfold badS; rw [this]; simp)]
    · have e : i = xs.length := by omega
      subst e
      rw [if_neg (by omega), ho]
theorem gr_right {xs : List S25} (hlen : xs.length ≤ 1000) (k : Nat) (hk : 1001 ≤ k) : bazaarref12_Right.f k xs = some (rightS xs) := by
  unfold bazaarref12_Right.f rightS
  by_cases h : (xs.length : Int) > 20
  · rw [if_pos h, decide_eq_false (by omega)]
    rfl
  · rw [if_neg h, decide_eq_true (by omega), Bool.true_and]
    exact gr_right_l0 xs hlen k 0 (by omega) (by omega) rfl
theorem gr_count_l0 (it : Int) (xs : List S25) (hlen : xs.length ≤ 1000) : ∀ (k i : Nat), i ≤ xs.length → xs.length < k + i → bazaarref12_Count.l0 k xs it (i : Int) = some (countS it (xs.drop i))
  | 0, i, hi, hk => by omega
  | k + 1, i, hi, hk => by
    rw [bazaarref12_Count.l0]
    by_cases h : i < xs.length
    · have e1 := gr_wrap i (by omega)
      have e2 : rd_T25 xs (i : Int) = xs[i] := by rw [gr_rd, List.getD_eq_getElem?_getD, List.getElem?_eq_getElem h]; rfl
      rw [if_pos (by omega), if_pos (by omega), e1, gr_count_l0 it xs hlen k (i + 1) (by omega) (by omega), e2, List.drop_eq_getElem_cons h, countS]
      split <;> rfl
    · rw [if_neg (by omega), List.drop_eq_nil_of_le (by omega)]
      rfl
theorem gr_count {xs : List S25} (hlen : xs.length ≤ 1000) (it : Int) (k : Nat) (hk : 1001 ≤ k) : bazaarref12_Count.f k xs it = some (countS it xs) := by
  have := gr_count_l0 it xs hlen k 0 (by omega) (by omega)
  simpa [bazaarref12_Count.f] using this
/-- What the reference's loop sets: before each stack that is not smaller, the new one, once. -/
def putR (it n : Int) : Bool → List S25 → List S25
  | d, [] => if d = true then [] else [⟨it, n⟩]
  | d, s :: l => (if (!d && decide (s.f0 ≥ it)) = true then [⟨it, n⟩] else []) ++ (if s.f0 = it then [] else [s]) ++ putR it n (d || decide (s.f0 ≥ it)) l
theorem putR_done (it n : Int) : ∀ l : List S25, (∀ t ∈ l, it < t.f0) → putR it n true l = l
  | [], _ => rfl
  | s :: l, h => by
    have hs := h s (by simp)
    rw [putR, if_neg (by simp), if_neg (by omega), Bool.true_or, putR_done it n l (fun t ht => h t (by simp [ht]))]
    rfl
theorem putR_put (it n : Int) (hn : 0 ≤ n) : ∀ l : List S25, Srt l → putR it n (n == 0) l = putS it n l
  | [], _ => by
    rw [putR, putS]
    by_cases h : n = 0
    · rw [if_pos (by simpa using h), if_neg (by omega)]
    · rw [if_neg (by simpa using h), if_pos (by omega)]
  | s :: l, ⟨h1, h2, h3⟩ => by
    rw [putR, putS]
    by_cases h : s.f0 < it
    · have hd : decide (s.f0 ≥ it) = false := decide_eq_false (by omega)
      rw [hd, Bool.and_false, Bool.or_false, if_neg (by simp), if_neg (by omega), if_pos h, putR_put it n hn l h3]
      rfl
    · have hd : decide (s.f0 ≥ it) = true := decide_eq_true (by omega)
      have hl : putR it n true l = l := putR_done it n l (fun t ht => by have := h2 t ht; omega)
      rw [hd, Bool.and_true, Bool.or_true, if_neg h, hl]
      by_cases hz : n = 0
      · have e0 : (n == 0) = true := by simpa using hz
        rw [e0, if_neg (by simp), if_neg (show ¬ n > 0 by omega)]
        by_cases he : s.f0 = it
        · rw [if_pos he, if_pos he]; rfl
        · rw [if_neg he, if_neg he]; rfl
      · have e0 : (n == 0) = false := by simpa using hz
        rw [e0, if_pos (by simp), if_pos (show n > 0 by omega)]
        by_cases he : s.f0 = it
        · rw [if_pos he, if_pos he]; rfl
        · rw [if_neg he, if_neg he]; rfl
theorem gr_with_l0 (it n : Int) (xs : List S25) (hlen : xs.length ≤ 1000) : ∀ (k i : Nat) (acc : List S25) (d : Bool), i ≤ xs.length → 2 * xs.length < k + 2 * i → acc.length ≤ 2 * i → bazaarref12_with.l0 k xs acc d (i : Int) it n = some (acc ++ putR it n d (xs.drop i))
  | 0, i, acc, d, hi, hk, hacc => by omega
  | k + 1, i, acc, d, hi, hk, hacc => by
    rw [bazaarref12_with.l0]
    by_cases h : i < xs.length
    · obtain ⟨k, rfl⟩ : ∃ k', k = k' + 1 := ⟨k - 1, by omega⟩
      have e1 := gr_wrap i (by omega)
      have e2 : rd_T25 xs (i : Int) = xs[i] := by rw [gr_rd, List.getD_eq_getElem?_getD, List.getElem?_eq_getElem h]; rfl
      have ih := gr_with_l0 it n xs hlen k (i + 1)
      have hdr := List.drop_eq_getElem_cons h
      rw [if_pos (by omega)]
      have key : ∀ f : Bool, f = (!d && decide (xs[i].f0 ≥ it)) → bazaarref12_with.j1 (k + 1) xs acc d (i : Int) f it n = some (acc ++ putR it n d (xs.drop i)) := by
        intro f hf
        rw [bazaarref12_with.j1, e2, e1, hdr, putR, ← hf]
        cases f with
        | true =>
          have hd : d = false ∧ decide (xs[i].f0 ≥ it) = true := by
            have := hf.symm
            simpa using this
          rw [if_pos rfl, if_pos (by omega), if_pos rfl, hd.2, Bool.or_true]
          simp only [Option.bind_some]
          rw [if_pos (by omega), if_pos (by omega)]
          by_cases he : xs[i].f0 = it
          · rw [if_pos he, if_pos he, ih _ _ (by omega) (by omega) (by simp; omega)]
            simp
          · rw [if_neg he, if_neg he, if_pos (by simp; omega), ih _ _ (by omega) (by omega) (by simp; omega)]
            simp
        | false =>
          have hd : (d || decide (xs[i].f0 ≥ it)) = d := by
            cases d with
            | true => rfl
            | false => simpa using hf.symm
          rw [if_neg Bool.false_ne_true, if_neg Bool.false_ne_true, hd]
          rw [if_pos (by omega), if_pos (by omega)]
          by_cases he : xs[i].f0 = it
          · rw [if_pos he, if_pos he, ih _ _ (by omega) (by omega) (by omega)]
            simp
          · rw [if_neg he, if_neg he, if_pos (by omega), ih _ _ (by omega) (by omega) (by simp; omega)]
            simp
      cases d with
      | true => rw [if_pos rfl]; exact key false (by simp)
      | false => rw [if_neg (by simp), if_pos (by omega), e2]; exact key _ (by simp)
    · rw [if_neg (by omega), List.drop_eq_nil_of_le (by omega), putR]
      cases d with
      | true => simp
      | false => rw [if_neg (by simp), if_pos (by omega)]; simp
theorem gr_with {xs : List S25} (hlen : xs.length ≤ 1000) (hs : Srt xs) (it n : Int) (hn : 0 ≤ n) (k : Nat) (hk : 2001 ≤ k) : bazaarref12_with.f k xs it n = some (putS it n xs) := by
  unfold bazaarref12_with.f
  have := gr_with_l0 it n xs hlen k 0 [] (n == 0) (by omega) (by omega) (by simp)
  rw [List.drop_zero, List.nil_append, putR_put it n hn xs hs] at this
  exact this
theorem gr_take {xs : List S25} (hlen : xs.length ≤ 1000) (it n : Int) (k : Nat) (hk : 2002 ≤ k) : bazaarref12_Take.f k xs it n = some (takeS xs it n) := by
  obtain ⟨k, rfl⟩ : ∃ k', k = k' + 1 := ⟨k - 1, by omega⟩
  unfold bazaarref12_Take.f takeS
  rw [gr_right hlen _ (by omega), gr_amount]
  simp only [Option.bind_some]
  by_cases hr : rightS xs = true
  · rw [if_pos hr, hr, Bool.true_and, bazaarref12_Take.j0]
    by_cases ha : amtS n = true
    · rw [if_neg (by simp [ha]), if_pos ha, gr_count hlen it k (by omega)]
      simp only [Option.bind_some]
      obtain ⟨hl, hs⟩ := (right_iff xs).1 hr
      have hc := count_amt it xs hs
      have hn := (amtS_iff _).1 ha
      have hb : (amt (countS it xs) && amt n) = true := by simp [amt]; omega
      by_cases hlt : countS it xs < n
      · have e : subF (countS it xs) n = (0, 112) := by unfold subF; rw [if_pos hb, if_pos hlt]
        rw [if_pos hlt, e, if_neg (by decide)]
      · have e : subF (countS it xs) n = (countS it xs - n, 0) := by unfold subF; rw [if_pos hb, if_neg hlt]
        have hw : wrap64 (countS it xs - n) = countS it xs - n := by unfold wrap64; omega
        rw [if_neg hlt, e, if_pos rfl, hw, gr_with hlen hs it _ (by omega) k (by omega), withS_put]
        rfl
    · rw [if_pos (by simp [ha]), if_neg ha]
  · rw [if_neg hr, if_neg (by simp [hr]), bazaarref12_Take.j0, if_pos rfl]
theorem gr_give {xs : List S25} (hlen : xs.length ≤ 1000) (it n : Int) (k : Nat) (hk : 2002 ≤ k) : bazaarref12_Give.f k xs it n = some (giveS xs it n) := by
  obtain ⟨k, rfl⟩ : ∃ k', k = k' + 1 := ⟨k - 1, by omega⟩
  unfold bazaarref12_Give.f giveS
  rw [gr_right hlen _ (by omega), gr_amount]
  simp only [Option.bind_some]
  by_cases hr : rightS xs = true
  · rw [if_pos hr, hr, Bool.true_and, bazaarref12_Give.j0]
    by_cases ha : amtS n = true
    · rw [if_neg (by simp [ha]), if_pos ha, gr_count hlen it k (by omega)]
      simp only [Option.bind_some]
      obtain ⟨hl, hs⟩ := (right_iff xs).1 hr
      have hc := count_amt it xs hs
      have hn := (amtS_iff _).1 ha
      have hb : (amt (countS it xs) && amt n) = true := by simp [amt]; omega
      have hw : wrap64 (countS it xs + n) = countS it xs + n := by unfold wrap64; omega
      rw [hw]
      by_cases hov : countS it xs + n ≤ 1152921504606846976
      · have e : addF (countS it xs) n = (countS it xs + n, 0) := by unfold addF; rw [if_pos hb, if_pos hov]
        rw [if_neg (by omega), e, if_pos rfl, gr_with hlen hs it _ (by omega) k (by omega), withS_put]
        simp only [Option.bind_some]
        by_cases h0 : countS it xs = 0
        · rw [if_pos h0]
          by_cases h20 : xs.length = 20
          · rw [if_pos (by omega), if_pos ⟨h0, h20⟩]
          · rw [if_neg (by omega), if_neg (fun h => h20 h.2)]
        · rw [if_neg h0, if_neg (fun h => h0 h.1)]
      · have e : addF (countS it xs) n = (0, 111) := by unfold addF; rw [if_pos hb, if_neg hov]
        rw [if_pos (by omega), e, if_neg (by decide)]
    · rw [if_pos (by simp [ha]), if_neg ha]
  · rw [if_neg hr, if_neg (by simp [hr]), bazaarref12_Give.j0, if_pos rfl]
end Go.Proofs.YtoclldkgkmhgaaaDoor.K
