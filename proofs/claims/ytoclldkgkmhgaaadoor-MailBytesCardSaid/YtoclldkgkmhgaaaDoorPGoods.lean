/- Plain laws on goods: what giving and taking do. -/
import Derived.Test.YtoclldkgkmhgaaaDoorCG
namespace Go.Proofs.YtoclldkgkmhgaaaDoor.K
open Go.Proofs.YtoclldkgkmhgaaaDoor.K (addF subF amt)
set_option linter.unusedVariables false
set_option linter.unusedSimpArgs false

/-- Goods whose stack of an item is another one, item by item. -/
def putS (it n : Int) : List S25 → List S25
  | [] => if n > 0 then [⟨it, n⟩] else []
  | s :: l => if s.f0 < it then s :: putS it n l else (if n > 0 then [⟨it, n⟩] else []) ++ (if s.f0 = it then l else s :: l)
theorem thereS_cons (it : Int) (s : S25) (l : List S25) : thereS it (s :: l) = if s.f0 < it then thereS it l else decide (s.f0 = it) := by
  unfold thereS
  by_cases h : s.f0 < it
  · simp [posS, h]
  · simp [posS, h]
theorem withS_put (it n : Int) : ∀ xs, withS xs it n = putS it n xs
  | [] => by simp [withS, putS, posS, thereS]
  | s :: l => by
    have ih := withS_put it n l
    unfold withS at ih ⊢
    rw [thereS_cons]
    by_cases h : s.f0 < it
    · have hp : posS it (s :: l) = posS it l + 1 := by simp [posS, h]
      rw [hp, putS, if_pos h, if_pos h, ← ih]
      cases thereS it l <;> simp
    · have hp : posS it (s :: l) = 0 := by simp [posS, h]
      rw [hp, putS, if_neg h, if_neg h]
      by_cases h2 : s.f0 = it <;> simp [h2]

/-- Stacks in their order, each of an amount. -/
def Srt : List S25 → Prop
  | [] => True
  | s :: l => amtS s.f1 = true ∧ (∀ t ∈ l, s.f0 < t.f0) ∧ Srt l
theorem amtS_iff (n : Int) : amtS n = true ↔ 1 ≤ n ∧ n ≤ 1152921504606846976 := by
  unfold amtS
  simp
theorem srt_of_at : ∀ xs : List S25, (∀ j, j < xs.length → amtS (xs.getD j z25).f1 = true) → Rise xs → Srt xs
  | [], _, _ => trivial
  | s :: l, h1, h2 => by
    refine ⟨by simpa using h1 0 (by simp), fun t ht => ?_, srt_of_at l (fun j hj => by simpa using h1 (j + 1) (by simpa using hj)) (fun i j hij hj => by simpa using h2 (i + 1) (j + 1) (by omega) (by simpa using hj))⟩
    obtain ⟨j, hj, rfl⟩ := List.getElem_of_mem ht
    have := h2 0 (j + 1) (by omega) (by simpa using hj)
    simpa [List.getD_eq_getElem?_getD, List.getElem?_eq_getElem hj] using this
theorem at_of_srt : ∀ xs : List S25, Srt xs → (∀ j, j < xs.length → amtS (xs.getD j z25).f1 = true) ∧ Rise xs
  | [], _ => ⟨fun j hj => by simp at hj, fun i j hij hj => by simp at hj⟩
  | s :: l, ⟨h1, h2, h3⟩ => by
    obtain ⟨i1, i2⟩ := at_of_srt l h3
    refine ⟨fun j hj => ?_, fun i j hij hj => ?_⟩
    · cases j with
      | zero => simpa using h1
      | succ j => simpa using i1 j (by simpa using hj)
    · cases j with
      | zero => omega
      | succ j =>
        have hj' : j < l.length := by simpa using hj
        cases i with
        | zero =>
          have := h2 l[j] (List.getElem_mem hj')
          simpa [List.getD_eq_getElem?_getD, List.getElem?_eq_getElem hj'] using this
        | succ i => simpa using i2 i j (by omega) hj'
theorem right_iff (xs : List S25) : rightS xs = true ↔ xs.length ≤ 20 ∧ Srt xs := by
  constructor
  · intro h
    refine ⟨right_len h, srt_of_at xs (fun j hj => ?_) (right_rise h)⟩
    unfold rightS at h
    simp only [Bool.and_eq_true] at h
    have := okTo_at h.2 j hj
    unfold badS at this
    simp only [Bool.or_eq_false_iff, Bool.not_eq_false'] at this
    exact this.1
  · rintro ⟨hl, hs⟩
    obtain ⟨h1, h2⟩ := at_of_srt xs hs
    unfold rightS okTo
    rw [Bool.and_eq_true]
    refine ⟨decide_eq_true hl, List.all_eq_true.2 fun j hj => ?_⟩
    have hj := List.mem_range.1 hj
    unfold badS
    rw [h1 j hj]
    cases j with
    | zero => simp [prevS, z25]
    | succ j =>
      have := h2 j (j + 1) (by omega) hj
      have e : prevS xs (j + 1) = xs.getD j z25 := rfl
      rw [e]
      have hd : decide ((xs.getD j z25).f0 ≥ (xs.getD (j + 1) z25).f0) = false := decide_eq_false (by omega)
      rw [hd]
      simp

theorem count_far (it : Int) : ∀ l : List S25, (∀ t ∈ l, it < t.f0) → countS it l = 0
  | [], _ => rfl
  | s :: l, h => by
    have := h s (by simp)
    rw [countS, if_neg (by omega), count_far it l (fun t ht => h t (by simp [ht]))]
theorem count_amt (it : Int) : ∀ l : List S25, Srt l → 0 ≤ countS it l ∧ countS it l ≤ 1152921504606846976
  | [], _ => by simp [countS]
  | s :: l, ⟨h1, _, h3⟩ => by
    rw [countS]
    split
    · have := (amtS_iff _).1 h1; omega
    · exact count_amt it l h3
theorem count_put (it n : Int) (hn : 0 ≤ n) : ∀ l : List S25, Srt l → countS it (putS it n l) = n
  | [], _ => by
    by_cases h : n > 0
    · simp [putS, h, countS]
    · simp [putS, h, countS]; omega
  | s :: l, ⟨h1, h2, h3⟩ => by
    rw [putS]
    by_cases h : s.f0 < it
    · rw [if_pos h, countS, if_neg (by omega), count_put it n hn l h3]
    · rw [if_neg h]
      by_cases hp : n > 0
      · simp [hp, countS]
      · have hn0 : n = 0 := by omega
        subst hn0
        by_cases he : s.f0 = it
        · simp [he, count_far it l (fun t ht => by have := h2 t ht; omega)]
        · simp [he, countS, count_far it l (fun t ht => by have := h2 t ht; omega)]
theorem count_put_ne (it n it' : Int) (hne : it' ≠ it) : ∀ l : List S25, countS it' (putS it n l) = countS it' l
  | [] => by
    by_cases h : n > 0
    · simp [putS, h, countS, hne.symm]
    · simp [putS, h, countS]
  | s :: l => by
    rw [putS]
    by_cases h : s.f0 < it
    · rw [if_pos h, countS, countS, count_put_ne it n it' hne l]
    · rw [if_neg h]
      by_cases hp : n > 0 <;> by_cases he : s.f0 = it
      · have : s.f0 ≠ it' := by omega
        simp [hp, he, countS, hne.symm]
      · simp [hp, he, countS, hne.symm]
      · simp [hp, he, countS, hne.symm]
      · simp [hp, he, countS]
theorem mem_put (it n : Int) : ∀ (l : List S25) (t), t ∈ putS it n l → t.f0 = it ∨ t ∈ l
  | [], t, ht => by
    by_cases h : n > 0
    · simp [putS, h] at ht; exact .inl (by rw [ht])
    · simp [putS, h] at ht
  | s :: l, t, ht => by
    rw [putS] at ht
    by_cases h : s.f0 < it
    · rw [if_pos h] at ht
      rcases List.mem_cons.1 ht with rfl | ht
      · exact .inr (by simp)
      · rcases mem_put it n l t ht with e | e
        · exact .inl e
        · exact .inr (by simp [e])
    · rw [if_neg h] at ht
      rcases List.mem_append.1 ht with ht | ht
      · by_cases hp : n > 0
        · simp [hp] at ht; exact .inl (by rw [ht])
        · simp [hp] at ht
      · by_cases he : s.f0 = it
        · simp [he] at ht; exact .inr (by simp [ht])
        · simp only [he, if_false] at ht; exact .inr ht
theorem srt_put (it n : Int) (hn : n ≤ 1152921504606846976) : ∀ l : List S25, Srt l → Srt (putS it n l)
  | [], _ => by
    by_cases h : n > 0
    · simp [putS, h, Srt, amtS_iff]; omega
    · simp [putS, h, Srt]
  | s :: l, ⟨h1, h2, h3⟩ => by
    rw [putS]
    by_cases h : s.f0 < it
    · rw [if_pos h]
      refine ⟨h1, fun t ht => ?_, srt_put it n hn l h3⟩
      rcases mem_put it n l t ht with e | e
      · omega
      · exact h2 t e
    · rw [if_neg h]
      have hs : Srt (if s.f0 = it then l else s :: l) := by
        split
        · exact h3
        · exact ⟨h1, h2, h3⟩
      by_cases hp : n > 0
      · rw [if_pos hp]
        refine ⟨(amtS_iff _).2 ⟨by show 1 ≤ n; omega, hn⟩, fun t ht => ?_, hs⟩
        show it < t.f0
        by_cases he : s.f0 = it
        · rw [show (List.append [] (if s.f0 = it then l else s :: l)) = (if s.f0 = it then l else s :: l) from rfl, if_pos he] at ht
          have := h2 t ht
          omega
        · rw [show (List.append [] (if s.f0 = it then l else s :: l)) = (if s.f0 = it then l else s :: l) from rfl, if_neg he] at ht
          rcases List.mem_cons.1 ht with rfl | ht
          · omega
          · have := h2 t ht; omega
      · rw [if_neg hp]
        exact hs
theorem put_put (it n m : Int) : ∀ l : List S25, Srt l → putS it m (putS it n l) = putS it m l
  | [], _ => by
    by_cases h : n > 0
    · simp [putS, h]
    · simp [putS, h]
  | s :: l, ⟨h1, h2, h3⟩ => by
    by_cases h : s.f0 < it
    · rw [putS, if_pos h, putS, if_pos h, put_put it n m l h3, putS, if_pos h]
    · by_cases hp : n > 0
      · by_cases he : s.f0 = it
        · simp [putS, h, hp, he]
        · simp [putS, h, hp, he]
      · by_cases he : s.f0 = it
        · have : putS it n (s :: l) = l := by simp [putS, h, hp, he]
          rw [this, putS, if_neg h, if_pos he]
          cases l with
          | nil => simp [putS]
          | cons t l =>
            have := h2 t (by simp)
            rw [putS, if_neg (by omega), if_neg (show ¬ t.f0 = it by omega)]
        · have : putS it n (s :: l) = s :: l := by simp [putS, h, hp, he]
          rw [this]
theorem put_count (it : Int) : ∀ l : List S25, Srt l → putS it (countS it l) l = l
  | [], _ => by simp [putS, countS]
  | s :: l, ⟨h1, h2, h3⟩ => by
    by_cases h : s.f0 < it
    · rw [countS, if_neg (by omega), putS, if_pos h, put_count it l h3]
    · by_cases he : s.f0 = it
      · have := (amtS_iff _).1 h1
        rw [countS, if_pos he, putS, if_neg h, if_pos he, if_pos (by omega)]
        cases s
        simp at he
        simp [he]
      · rw [count_far it (s :: l) (fun t ht => by
          rcases List.mem_cons.1 ht with rfl | ht
          · omega
          · have := h2 t ht; omega), putS, if_neg h, if_neg he]
        simp
theorem len_put (it n : Int) : ∀ l : List S25, Srt l → (putS it n l).length + (if countS it l > 0 then 1 else 0) = l.length + (if n > 0 then 1 else 0)
  | [], _ => by
    by_cases h : n > 0
    · simp [putS, h, countS]
    · simp [putS, h, countS]
  | s :: l, ⟨h1, h2, h3⟩ => by
    have ih := len_put it n l h3
    by_cases h : s.f0 < it
    · have hne : ¬ s.f0 = it := by omega
      rw [countS, if_neg hne, putS, if_pos h, List.length_cons, List.length_cons]
      omega
    · have hf := count_far it l (fun t ht => by have := h2 t ht; omega)
      by_cases he : s.f0 = it
      · have := (amtS_iff _).1 h1
        rw [countS, if_pos he, putS, if_neg h, if_pos he, if_pos (show s.f1 > 0 by omega)]
        by_cases hp : n > 0
        · simp [hp]
        · simp [hp]
      · rw [countS, if_neg he, hf, putS, if_neg h, if_neg he]
        by_cases hp : n > 0
        · simp [hp]
        · simp [hp]

/-- The two ways of giving. -/
theorem give_cases (l : List S25) (it n : Int) :
    (∃ e, giveS l it n = ([], e) ∧ e ≠ 0) ∨
    (l.length ≤ 20 ∧ Srt l ∧ 1 ≤ n ∧ countS it l + n ≤ 1152921504606846976 ∧ ¬ (countS it l = 0 ∧ l.length = 20) ∧ giveS l it n = (putS it (countS it l + n) l, 0)) := by
  unfold giveS
  by_cases h : (rightS l && amtS n) = true
  · rw [if_pos h]
    simp only [Bool.and_eq_true] at h
    obtain ⟨hl, hs⟩ := (right_iff l).1 h.1
    have hn := (amtS_iff n).1 h.2
    have hc := count_amt it l hs
    have ha : (amt (countS it l) && amt n) = true := by simp [amt]; omega
    by_cases ho : countS it l + n ≤ 1152921504606846976
    · have e : addF (countS it l) n = (countS it l + n, 0) := by unfold addF; rw [if_pos ha, if_pos ho]
      rw [e, if_pos rfl]
      by_cases hz : countS it l = 0 ∧ l.length = 20
      · rw [if_pos hz]
        exact .inl ⟨121, rfl, by decide⟩
      · rw [if_neg hz, withS_put]
        exact .inr ⟨hl, hs, hn.1, ho, hz, rfl⟩
    · have e : addF (countS it l) n = (0, 111) := by unfold addF; rw [if_pos ha, if_neg ho]
      rw [e, if_neg (by decide)]
      exact .inl ⟨111, rfl, by decide⟩
  · rw [if_neg h]
    exact .inl ⟨120, rfl, by decide⟩
theorem give_ok {l : List S25} {it n : Int} (hl : l.length ≤ 20) (hs : Srt l) (h1 : 1 ≤ n) (ho : countS it l + n ≤ 1152921504606846976) (hz : ¬ (countS it l = 0 ∧ l.length = 20)) : giveS l it n = (putS it (countS it l + n) l, 0) := by
  have hc := count_amt it l hs
  have ha : (amt (countS it l) && amt n) = true := by simp [amt]; omega
  have e : addF (countS it l) n = (countS it l + n, 0) := by unfold addF; rw [if_pos ha, if_pos ho]
  unfold giveS
  rw [(right_iff l).2 ⟨hl, hs⟩, (amtS_iff n).2 ⟨h1, by omega⟩, show (true && true) = true from rfl, if_pos rfl, e, if_pos rfl, if_neg hz, withS_put]
/-- The two ways of taking. -/
theorem take_cases (l : List S25) (it n : Int) :
    (∃ e, takeS l it n = ([], e) ∧ e ≠ 0) ∨
    (l.length ≤ 20 ∧ Srt l ∧ 1 ≤ n ∧ n ≤ countS it l ∧ takeS l it n = (putS it (countS it l - n) l, 0)) := by
  unfold takeS
  by_cases h : (rightS l && amtS n) = true
  · rw [if_pos h]
    simp only [Bool.and_eq_true] at h
    obtain ⟨hl, hs⟩ := (right_iff l).1 h.1
    have hn := (amtS_iff n).1 h.2
    have hc := count_amt it l hs
    have ha : (amt (countS it l) && amt n) = true := by simp [amt]; omega
    by_cases ho : countS it l < n
    · have e : subF (countS it l) n = (0, 112) := by unfold subF; rw [if_pos ha, if_pos ho]
      rw [e, if_neg (by decide)]
      exact .inl ⟨122, rfl, by decide⟩
    · have e : subF (countS it l) n = (countS it l - n, 0) := by unfold subF; rw [if_pos ha, if_neg ho]
      rw [e, if_pos rfl, withS_put]
      exact .inr ⟨hl, hs, hn.1, by omega, rfl⟩
  · rw [if_neg h]
    exact .inl ⟨120, rfl, by decide⟩
theorem take_ok {l : List S25} {it n : Int} (hl : l.length ≤ 20) (hs : Srt l) (h1 : 1 ≤ n) (ho : n ≤ countS it l) : takeS l it n = (putS it (countS it l - n) l, 0) := by
  have hc := count_amt it l hs
  have ha : (amt (countS it l) && amt n) = true := by simp [amt]; omega
  have e : subF (countS it l) n = (countS it l - n, 0) := by unfold subF; rw [if_pos ha, if_neg (by omega)]
  unfold takeS
  rw [(right_iff l).2 ⟨hl, hs⟩, (amtS_iff n).2 ⟨h1, by omega⟩, show (true && true) = true from rfl, if_pos rfl, e, if_pos rfl, withS_put]
/-- Taking what was given. -/
theorem take_give {l a : List S25} {it n : Int} (h : giveS l it n = (a, 0)) : takeS a it n = (l, 0) := by
  rcases give_cases l it n with ⟨e, he, hne⟩ | ⟨hl, hs, h1, ho, hz, he⟩
  · rw [he] at h
    exact absurd (congrArg (·.2) h) hne
  · rw [he] at h
    obtain rfl := congrArg (·.1) h
    have hc := count_amt it l hs
    have h2 := count_put it (countS it l + n) (by omega) l hs
    have hlen := len_put it (countS it l + n) l hs
    rw [take_ok (by
      show (putS it (countS it l + n) l).length ≤ 20
      rw [if_pos (show countS it l + n > 0 by omega)] at hlen
      split at hlen <;> omega) (srt_put it _ ho l hs) h1 (by show n ≤ countS it (putS it (countS it l + n) l); rw [h2]; omega)]
    show (putS it (countS it (putS it (countS it l + n) l) - n) (putS it (countS it l + n) l), (0 : Int)) = (l, 0)
    rw [h2, put_put it _ _ l hs, show countS it l + n - n = countS it l by omega, put_count it l hs]
/-- Giving what was taken. -/
theorem give_take {l a : List S25} {it n : Int} (h : takeS l it n = (a, 0)) : giveS a it n = (l, 0) := by
  rcases take_cases l it n with ⟨e, he, hne⟩ | ⟨hl, hs, h1, ho, he⟩
  · rw [he] at h
    exact absurd (congrArg (·.2) h) hne
  · rw [he] at h
    obtain rfl := congrArg (·.1) h
    have hc := count_amt it l hs
    have h2 := count_put it (countS it l - n) (by omega) l hs
    have hlen := len_put it (countS it l - n) l hs
    rw [if_pos (show countS it l > 0 by omega)] at hlen
    rw [give_ok (by
      show (putS it (countS it l - n) l).length ≤ 20
      split at hlen <;> omega) (srt_put it _ (by omega) l hs) h1 (by show countS it (putS it (countS it l - n) l) + n ≤ _; rw [h2]; omega) (by
      show ¬ (countS it (putS it (countS it l - n) l) = 0 ∧ (putS it (countS it l - n) l).length = 20)
      rw [h2]
      rintro ⟨e1, e2⟩
      rw [if_neg (by omega)] at hlen
      omega)]
    show (putS it (countS it (putS it (countS it l - n) l) + n) (putS it (countS it l - n) l), (0 : Int)) = (l, 0)
    rw [h2, put_put it _ _ l hs, show countS it l - n + n = countS it l by omega, put_count it l hs]
theorem give_len {l : List S25} {it n : Int} : (giveS l it n).1.length ≤ 20 := by
  rcases give_cases l it n with ⟨e, he, hne⟩ | ⟨hl, hs, h1, ho, hz, he⟩
  · rw [he]; simp
  · rw [he]
    have hc := count_amt it l hs
    have hlen := len_put it (countS it l + n) l hs
    rw [if_pos (show countS it l + n > 0 by omega)] at hlen
    show (putS it (countS it l + n) l).length ≤ 20
    split at hlen <;> omega
theorem take_len {l : List S25} {it n : Int} : (takeS l it n).1.length ≤ 20 := by
  rcases take_cases l it n with ⟨e, he, hne⟩ | ⟨hl, hs, h1, ho, he⟩
  · rw [he]; simp
  · rw [he]
    have hc := count_amt it l hs
    have hlen := len_put it (countS it l - n) l hs
    rw [if_pos (show countS it l > 0 by omega)] at hlen
    show (putS it (countS it l - n) l).length ≤ 20
    split at hlen <;> omega
end Go.Proofs.YtoclldkgkmhgaaaDoor.K
