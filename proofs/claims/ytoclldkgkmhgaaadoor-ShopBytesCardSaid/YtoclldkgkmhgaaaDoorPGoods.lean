/- Plain laws on goods: what giving and taking do. -/
import Derived.Test.YtoclldkgkmhgaaaDoorCG
namespace Go.Proofs.YtoclldkgkmhgaaaDoor.K
open Go.Proofs.YtoclldkgkmhgaaaDoor.K (addF subF amt)
set_option linter.unusedVariables false
set_option linter.unusedSimpArgs false

/-- Goods whose stack of an item is another one, item by item. -/
def putS (it n : Int) : List S25 → List S25
  | [] => if n > 0 then [⟨it, n⟩] else []
  | s :: l => if s.f0 < it then s :: putS it n l else (if n > 0 then [⟨it, n⟩] else []) ++ (if s.f0 = it then l else s :: l)
theorem thereS_cons (it : Int) (s : S25) (l : List S25) : thereS it (s :: l) = if s.f0 < it then thereS it l else decide (s.f0 = it) := by
  unfold thereS
  by_cases h : s.f0 < it
  · simp [posS, h]
  · simp [posS, h]
theorem withS_put (it n : Int) : ∀ xs, withS xs it n = putS it n xs
  | [] => by simp [withS, putS, posS, thereS]
  | s :: l => by
    have ih := withS_put it n l
    unfold withS at ih ⊢
    rw [thereS_cons]
    by_cases h : s.f0 < it
    · have hp : posS it (s :: l) = posS it l + 1 := by simp [posS, h]
      rw [hp, putS, if_pos h, if_pos h, ← ih]
      cases thereS it l <;> simp
    · have hp : posS it (s :: l) = 0 := by simp [posS, h]
      rw [hp, putS, if_neg h, if_neg h]
      by_cases h2 : s.f0 = it <;> simp [h2]

/-- Stacks in their order, each of an amount. -/
def Srt : List S25 → Prop
  | [] => True
  | s :: l => amtS s.f1 = true ∧ (∀ t ∈ l, s.f0 < t.f0) ∧ Srt l
theorem amtS_iff (n : Int) : amtS n = true ↔ 1 ≤ n ∧ n ≤ 1152921504606846976 := by
  unfold amtS
  simp
theorem srt_of_at : ∀ xs : List S25, (∀ j, j < xs.length → amtS (xs.getD j z25).f1 = true) → Rise xs → Srt xs
  | [], _, _ => trivial
  | s :: l, h1, h2 => by
    refine ⟨by simpa using h1 0 (by simp), fun t ht => ?_, srt_of_at l (fun j hj => by simpa using h1 (j + 1) (by simpa using hj)) (fun i j hij hj => by simpa using h2 (i + 1) (j + 1) (by omega) (by simpa using hj))⟩
    obtain ⟨j, hj, rfl⟩ := List.getElem_of_mem ht
    have := h2 0 (j + 1) (by omega) (by simpa using hj)
    simpa [List.getD_eq_getElem?_getD, List.getElem?_eq_getElem hj] using this
theorem at_of_srt : ∀ xs : List S25, Srt xs → (∀ j, j < xs.length → amtS (xs.getD j z25).f1 = true) ∧ Rise xs
  | [], _ => ⟨fun j hj => by simp at hj, fun i j hij hj => by simp at hj⟩
  | s :: l, ⟨h1, h2, h3⟩ => by
    obtain ⟨i1, i2⟩ := at_of_srt l h3
    refine ⟨fun j hj => ?_, fun i j hij hj => ?_⟩
    · cases j with
      | zero => simpa using h1
      | succ j => simpa using i1 j (by simpa using hj)
    · cases j with
      | zero => omega
      | succ j =>
        have hj' : j < l.length := by simpa using hj
        cases i with
        | zero =>
          have := h2 l[j] (List.getElem_mem hj')
          simpa [List.getD_eq_getElem?_getD, List.getElem?_eq_getElem hj'] using this
        | succ i => simpa using i2 i j (by omega) hj'
theorem right_iff (xs : List S25) : rightS xs = true ↔ xs.length ≤ 20 ∧ Srt xs := by
  constructor
  · intro h
    refine ⟨right_len h, srt_of_at xs (fun j hj => ?_) (right_rise h)⟩
    unfold rightS at h
    simp only [Bool.and_eq_true] at h
    have := okTo_at h.2 j hj
    unfold badS at this
    simp only [Bool.or_eq_false_iff, Bool.not_eq_false'] at this
    exact this.1
  · rintro ⟨hl, hs⟩
    obtain ⟨h1, h2⟩ := at_of_srt xs hs
    unfold rightS okTo
    rw [Bool.and_eq_true]
    refine ⟨decide_eq_true hl, List.all_eq_true.2 fun j hj => ?_⟩
    have hj := List.mem_range.1 hj
    unfold badS
    rw [h1 j hj]
    cases j with
    | zero => simp [prevS, z25]
    | succ j =>
      have := h2 j (j + 1) (by omega) hj
      have e : prevS xs (j + 1) = xs.getD j z25 := rfl
      rw [e]
      have hd : decide ((xs.getD j z25).f0 ≥ (xs.getD (j + 1) z25).f0) = false := decide_eq_false (by omega)
      rw [hd]
      simp

theorem count_amt (it : Int) : ∀ l : List S25, Srt l → 0 ≤ countS it l ∧ countS it l ≤ 1152921504606846976
  | [], _ => by simp [countS]
  | s :: l, ⟨h1, _, h3⟩ => by
    rw [countS]
    split
    · have := (amtS_iff _).1 h1; omega
    · exact count_amt it l h3
theorem give_ok {l : List S25} {it n : Int} (hl : l.length ≤ 20) (hs : Srt l) (h1 : 1 ≤ n) (ho : countS it l + n ≤ 1152921504606846976) (hz : ¬ (countS it l = 0 ∧ l.length = 20)) : giveS l it n = (putS it (countS it l + n) l, 0) := by
  have hc := count_amt it l hs
  have ha : (amt (countS it l) && amt n) = true := by simp [amt]; omega
  have e : addF (countS it l) n = (countS it l + n, 0) := by unfold addF; rw [if_pos ha, if_pos ho]
  unfold giveS
  rw [(right_iff l).2 ⟨hl, hs⟩, (amtS_iff n).2 ⟨h1, by omega⟩, show (true && true) = true from rfl, if_pos rfl, e, if_pos rfl, if_neg hz, withS_put]
end Go.Proofs.YtoclldkgkmhgaaaDoor.K
