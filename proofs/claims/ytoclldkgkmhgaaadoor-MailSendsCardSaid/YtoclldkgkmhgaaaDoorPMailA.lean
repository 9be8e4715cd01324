/- Plain laws on mail: what sending and claiming do. -/
import Derived.Test.YtoclldkgkmhgaaaDoorPGLaws
import Derived.Test.YtoclldkgkmhgaaaDoorPAcc
import Derived.Test.YtoclldkgkmhgaaaDoorCS
import Derived.Test.YtoclldkgkmhgaaaDoorKx22
namespace Go.Proofs.YtoclldkgkmhgaaaDoor.K
open Go.RowKit Go.Proofs.YtoclldkgkmhgaaaDoorW.PrintWords Go.Proofs.YtoclldkgkmhgaaaDoorW.PrintLast
open Go.Proofs.YtoclldkgkmhgaaaDoor.Pure (Acc spend_cases earn_cases)
set_option linter.unusedVariables false
set_option linter.unusedSimpArgs false

theorem send_f {l : List S25} (h : l.length ≤ 1000) (a0 a1 m0 m1 m2 m3 : Int) : mail_Send.f a0 a1 l m0 m1 m2 m3 = some (sendS a0 a1 l m0 m1 m2 m3) := by
  unfold mail_Send.f
  rw [if_neg (by omega)]
theorem claim_f {l : List S25} (h : l.length ≤ 1000) (a0 a1 m0 m1 m2 m3 : Int) : mail_Claim.f a0 a1 l m0 m1 m2 m3 = some (claimS a0 a1 l m0 m1 m2 m3) := by
  unfold mail_Claim.f
  rw [if_neg (by omega)]
theorem cut14_f (l : List S25) : bazaarlaw14_cut.f l = some (l.take 30) := rfl
theorem cut30 (l : List S25) : (l.take 30).length ≤ 30 := by rw [List.length_take]; omega

theorem mail_fields {m0 m1 m2 m3 : Int} (h : mailOk m0 m1 m2 m3 = true) : 1 ≤ m0 ∧ m0 ≤ 1000000 ∧ 0 ≤ m1 ∧ m1 ≤ 1152921504606846976 ∧ 0 ≤ m3 ∧ m3 ≤ 1152921504606846976 ∧ (m3 = 0 → m2 = 0 ∧ 0 < m1) := by
  unfold mailOk at h
  by_cases h3 : m3 = 0
  · simp [h3] at h
    refine ⟨by omega, by omega, by omega, by omega, by omega, by omega, fun _ => ⟨by omega, by omega⟩⟩
  · simp [h3] at h
    refine ⟨by omega, by omega, by omega, by omega, by omega, by omega, fun e => absurd e h3⟩

/-- The two ways of sending. -/
theorem send_cases (a0 a1 : Int) (l : List S25) (m0 m1 m2 m3 : Int) :
    (∃ e, sendS a0 a1 l m0 m1 m2 m3 = (0, 0, [], e) ∧ e ≠ 0) ∨
    (mailOk m0 m1 m2 m3 = true ∧ Acc a0 a1 ∧ m1 ≤ a0 ∧ l.length ≤ 20 ∧ Srt l ∧ ((m3 = 0 ∧ sendS a0 a1 l m0 m1 m2 m3 = (a0 - m1, a1, l, 0)) ∨ (1 ≤ m3 ∧ m3 ≤ countS m2 l ∧ sendS a0 a1 l m0 m1 m2 m3 = (a0 - m1, a1, putS m2 (countS m2 l - m3) l, 0)))) := by
  unfold sendS
  by_cases hm : mailOk m0 m1 m2 m3 = true
  · obtain ⟨f0, f1, f2, f3, f4, f5, f6⟩ := mail_fields hm
    rw [if_pos hm]
    rcases spend_cases a0 a1 m1 with ⟨hA, h0, h1, he⟩ | ⟨e, hne, he⟩
    · rw [he, if_pos rfl]
      by_cases hr : rightS l = true
      · rw [if_pos hr]
        obtain ⟨h20, hs⟩ := (right_iff l).1 hr
        by_cases h3 : m3 > 0
        · rw [if_pos h3]
          rcases take_cases l m2 m3 with ⟨e, he2, hne⟩ | ⟨_, _, t1, t2, he2⟩
          · rw [he2, if_neg hne]
            exact .inl ⟨e, rfl, hne⟩
          · rw [he2, if_pos rfl]
            exact .inr ⟨hm, hA, h1, h20, hs, .inr ⟨by omega, t2, rfl⟩⟩
        · rw [if_neg h3]
          exact .inr ⟨hm, hA, h1, h20, hs, .inl ⟨by omega, rfl⟩⟩
      · rw [if_neg hr]
        exact .inl ⟨120, rfl, by decide⟩
    · rw [he, if_neg hne]
      exact .inl ⟨e, rfl, hne⟩
  · rw [if_neg hm]
    exact .inl ⟨140, rfl, by decide⟩
/-- The two ways of claiming. -/
theorem claim_cases (a0 a1 : Int) (l : List S25) (m0 m1 m2 m3 : Int) :
    (∃ e, claimS a0 a1 l m0 m1 m2 m3 = (0, 0, [], e) ∧ e ≠ 0) ∨
    (mailOk m0 m1 m2 m3 = true ∧ Acc a0 a1 ∧ a0 + m1 + a1 ≤ 1152921504606846976 ∧ l.length ≤ 20 ∧ Srt l ∧ ((m3 = 0 ∧ claimS a0 a1 l m0 m1 m2 m3 = (a0 + m1, a1, l, 0)) ∨ (1 ≤ m3 ∧ countS m2 l + m3 ≤ 1152921504606846976 ∧ claimS a0 a1 l m0 m1 m2 m3 = (a0 + m1, a1, putS m2 (countS m2 l + m3) l, 0)))) := by
  unfold claimS
  by_cases hm : mailOk m0 m1 m2 m3 = true
  · obtain ⟨f0, f1, f2, f3, f4, f5, f6⟩ := mail_fields hm
    rw [if_pos hm]
    rcases earn_cases a0 a1 m1 with ⟨hA, h0, h1, he⟩ | ⟨e, hne, he⟩
    · rw [he, if_pos rfl]
      by_cases hr : rightS l = true
      · rw [if_pos hr]
        obtain ⟨h20, hs⟩ := (right_iff l).1 hr
        by_cases h3 : m3 > 0
        · rw [if_pos h3]
          rcases give_cases l m2 m3 with ⟨e, he2, hne⟩ | ⟨_, _, t1, t2, _, he2⟩
          · rw [he2, if_neg hne]
            exact .inl ⟨e, rfl, hne⟩
          · rw [he2, if_pos rfl]
            exact .inr ⟨hm, hA, h1, h20, hs, .inr ⟨by omega, t2, rfl⟩⟩
        · rw [if_neg h3]
          exact .inr ⟨hm, hA, h1, h20, hs, .inl ⟨by omega, rfl⟩⟩
      · rw [if_neg hr]
        exact .inl ⟨120, rfl, by decide⟩
    · rw [he, if_neg hne]
      exact .inl ⟨e, rfl, hne⟩
  · rw [if_neg hm]
    exact .inl ⟨140, rfl, by decide⟩
theorem send_len (a0 a1 : Int) (l : List S25) (m0 m1 m2 m3 : Int) : (sendS a0 a1 l m0 m1 m2 m3).2.2.1.length ≤ 20 := by
  rcases send_cases a0 a1 l m0 m1 m2 m3 with ⟨e, he, _⟩ | ⟨hm, hA, h1, h20, hs, ⟨_, he⟩ | ⟨t1, t2, he⟩⟩
  · rw [he]; simp
  · rw [he]; exact h20
  · rw [he]
    have := take_len (l := l) (it := m2) (n := m3)
    rw [take_ok h20 hs t1 t2] at this
    exact this
theorem claim_len (a0 a1 : Int) (l : List S25) (m0 m1 m2 m3 : Int) : (claimS a0 a1 l m0 m1 m2 m3).2.2.1.length ≤ 21 := by
  rcases claim_cases a0 a1 l m0 m1 m2 m3 with ⟨e, he, _⟩ | ⟨hm, hA, h1, h20, hs, ⟨_, he⟩ | ⟨t1, t2, he⟩⟩
  · rw [he]; simp
  · rw [he]; show l.length ≤ 21; omega
  · rw [he]
    have hlen := len_put m2 (countS m2 l + m3) l hs
    show (putS m2 (countS m2 l + m3) l).length ≤ 21
    have h3 : (if countS m2 l + m3 > 0 then 1 else 0) ≤ 1 := by split <;> omega
    omega

theorem shown14_f : bazaarlaw14_shown.f = some true := by
  have g : sendS 5 0 [⟨1, 3⟩] 1 2 1 3 = (3, 0, [], 0) := by
    have hs : Srt [(⟨1, 3⟩ : S25)] := by simp [Srt, amtS]
    have ht : takeS [(⟨1, 3⟩ : S25)] 1 3 = ([], 0) := by
      rw [take_ok (by decide) hs (by decide) (by simp [countS])]
      simp [putS, countS]
    have hr : rightS [(⟨1, 3⟩ : S25)] = true := (right_iff _).2 ⟨by decide, hs⟩
    have hsp : spendF 5 0 2 = (3, 0, 0) := by decide
    have hm : mailOk 1 2 1 3 = true := by decide
    unfold sendS
    rw [hm, hsp, hr, ht]
    simp
  have hp : mail_Parse.f (⟨#[]⟩ : ByteArray) = some (0, 0, 0, 0, 140) := by
    unfold mail_Parse.f
    rw [if_neg (by decide)]
  unfold bazaarlaw14_shown.f
  rw [send_f (by decide), g]
  simp only [Option.bind_some]
  rw [hp]
  simp
end Go.Proofs.YtoclldkgkmhgaaaDoor.K
