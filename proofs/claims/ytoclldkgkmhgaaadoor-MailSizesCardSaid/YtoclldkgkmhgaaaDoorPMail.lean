/- Plain laws on mail: what sending and claiming do; MailOwn, MailMoves. -/
import Derived.Test.YtoclldkgkmhgaaaDoorPGLaws
import Derived.Test.YtoclldkgkmhgaaaDoorPAcc
import Derived.Test.YtoclldkgkmhgaaaDoorCS
import Derived.Test.YtoclldkgkmhgaaaDoorKx22
import Derived.Test.YtoclldkgkmhgaaaDoorKx41
import Derived.Test.YtoclldkgkmhgaaaDoorKx50
import Derived.Test.YtoclldkgkmhgaaaDoorKx51
namespace Go.Proofs.YtoclldkgkmhgaaaDoor.K
open Go.RowKit Go.Proofs.YtoclldkgkmhgaaaDoorW.PrintWords Go.Proofs.YtoclldkgkmhgaaaDoorW.PrintLast
open Go.Proofs.YtoclldkgkmhgaaaDoor.Pure (Acc spend_cases earn_cases)
set_option linter.unusedVariables false
set_option linter.unusedSimpArgs false

theorem send_f {l : List S25} (h : l.length ≤ 1000) (a0 a1 m0 m1 m2 m3 : Int) : mail_Send.f a0 a1 l m0 m1 m2 m3 = some (sendS a0 a1 l m0 m1 m2 m3) := by
  unfold mail_Send.f
  rw [if_neg (by omega)]
theorem claim_f {l : List S25} (h : l.length ≤ 1000) (a0 a1 m0 m1 m2 m3 : Int) : mail_Claim.f a0 a1 l m0 m1 m2 m3 = some (claimS a0 a1 l m0 m1 m2 m3) := by
  unfold mail_Claim.f
  rw [if_neg (by omega)]
theorem cut14_f (l : List S25) : bazaarlaw14_cut.f l = some (l.take 30) := rfl
theorem cut30 (l : List S25) : (l.take 30).length ≤ 30 := by rw [List.length_take]; omega

theorem mail_fields {m0 m1 m2 m3 : Int} (h : mailOk m0 m1 m2 m3 = true) : 1 ≤ m0 ∧ m0 ≤ 1000000 ∧ 0 ≤ m1 ∧ m1 ≤ 1152921504606846976 ∧ 0 ≤ m3 ∧ m3 ≤ 1152921504606846976 ∧ (m3 = 0 → m2 = 0 ∧ 0 < m1) := by
  unfold mailOk at h
  by_cases h3 : m3 = 0
  · simp [h3] at h
    refine ⟨by omega, by omega, by omega, by omega, by omega, by omega, fun _ => ⟨by omega, by omega⟩⟩
  · simp [h3] at h
    refine ⟨by omega, by omega, by omega, by omega, by omega, by omega, fun e => absurd e h3⟩

/-- The two ways of sending. -/
theorem send_cases (a0 a1 : Int) (l : List S25) (m0 m1 m2 m3 : Int) :
    (∃ e, sendS a0 a1 l m0 m1 m2 m3 = (0, 0, [], e) ∧ e ≠ 0) ∨
    (mailOk m0 m1 m2 m3 = true ∧ Acc a0 a1 ∧ m1 ≤ a0 ∧ l.length ≤ 20 ∧ Srt l ∧ ((m3 = 0 ∧ sendS a0 a1 l m0 m1 m2 m3 = (a0 - m1, a1, l, 0)) ∨ (1 ≤ m3 ∧ m3 ≤ countS m2 l ∧ sendS a0 a1 l m0 m1 m2 m3 = (a0 - m1, a1, putS m2 (countS m2 l - m3) l, 0)))) := by
  unfold sendS
  by_cases hm : mailOk m0 m1 m2 m3 = true
  · obtain ⟨f0, f1, f2, f3, f4, f5, f6⟩ := mail_fields hm
    rw [if_pos hm]
    rcases spend_cases a0 a1 m1 with ⟨hA, h0, h1, he⟩ | ⟨e, hne, he⟩
    · rw [he, if_pos rfl]
      by_cases hr : rightS l = true
      · rw [if_pos hr]
        obtain ⟨h20, hs⟩ := (right_iff l).1 hr
        by_cases h3 : m3 > 0
        · rw [if_pos h3]
          rcases take_cases l m2 m3 with ⟨e, he2, hne⟩ | ⟨_, _, t1, t2, he2⟩
          · rw [he2, if_neg hne]
            exact .inl ⟨e, rfl, hne⟩
          · rw [he2, if_pos rfl]
            exact .inr ⟨hm, hA, h1, h20, hs, .inr ⟨by omega, t2, rfl⟩⟩
        · rw [if_neg h3]
          exact .inr ⟨hm, hA, h1, h20, hs, .inl ⟨by omega, rfl⟩⟩
      · rw [if_neg hr]
        exact .inl ⟨120, rfl, by decide⟩
    · rw [he, if_neg hne]
      exact .inl ⟨e, rfl, hne⟩
  · rw [if_neg hm]
    exact .inl ⟨140, rfl, by decide⟩
/-- The two ways of claiming. -/
theorem claim_cases (a0 a1 : Int) (l : List S25) (m0 m1 m2 m3 : Int) :
    (∃ e, claimS a0 a1 l m0 m1 m2 m3 = (0, 0, [], e) ∧ e ≠ 0) ∨
    (mailOk m0 m1 m2 m3 = true ∧ Acc a0 a1 ∧ a0 + m1 + a1 ≤ 1152921504606846976 ∧ l.length ≤ 20 ∧ Srt l ∧ ((m3 = 0 ∧ claimS a0 a1 l m0 m1 m2 m3 = (a0 + m1, a1, l, 0)) ∨ (1 ≤ m3 ∧ countS m2 l + m3 ≤ 1152921504606846976 ∧ claimS a0 a1 l m0 m1 m2 m3 = (a0 + m1, a1, putS m2 (countS m2 l + m3) l, 0)))) := by
  unfold claimS
  by_cases hm : mailOk m0 m1 m2 m3 = true
  · obtain ⟨f0, f1, f2, f3, f4, f5, f6⟩ := mail_fields hm
    rw [if_pos hm]
    rcases earn_cases a0 a1 m1 with ⟨hA, h0, h1, he⟩ | ⟨e, hne, he⟩
    · rw [he, if_pos rfl]
      by_cases hr : rightS l = true
      · rw [if_pos hr]
        obtain ⟨h20, hs⟩ := (right_iff l).1 hr
        by_cases h3 : m3 > 0
        · rw [if_pos h3]
          rcases give_cases l m2 m3 with ⟨e, he2, hne⟩ | ⟨_, _, t1, t2, _, he2⟩
          · rw [he2, if_neg hne]
            exact .inl ⟨e, rfl, hne⟩
          · rw [he2, if_pos rfl]
            exact .inr ⟨hm, hA, h1, h20, hs, .inr ⟨by omega, t2, rfl⟩⟩
        · rw [if_neg h3]
          exact .inr ⟨hm, hA, h1, h20, hs, .inl ⟨by omega, rfl⟩⟩
      · rw [if_neg hr]
        exact .inl ⟨120, rfl, by decide⟩
    · rw [he, if_neg hne]
      exact .inl ⟨e, rfl, hne⟩
  · rw [if_neg hm]
    exact .inl ⟨140, rfl, by decide⟩
theorem send_len (a0 a1 : Int) (l : List S25) (m0 m1 m2 m3 : Int) : (sendS a0 a1 l m0 m1 m2 m3).2.2.1.length ≤ 20 := by
  rcases send_cases a0 a1 l m0 m1 m2 m3 with ⟨e, he, _⟩ | ⟨hm, hA, h1, h20, hs, ⟨_, he⟩ | ⟨t1, t2, he⟩⟩
  · rw [he]; simp
  · rw [he]; exact h20
  · rw [he]
    have := take_len (l := l) (it := m2) (n := m3)
    rw [take_ok h20 hs t1 t2] at this
    exact this
theorem claim_len (a0 a1 : Int) (l : List S25) (m0 m1 m2 m3 : Int) : (claimS a0 a1 l m0 m1 m2 m3).2.2.1.length ≤ 21 := by
  rcases claim_cases a0 a1 l m0 m1 m2 m3 with ⟨e, he, _⟩ | ⟨hm, hA, h1, h20, hs, ⟨_, he⟩ | ⟨t1, t2, he⟩⟩
  · rw [he]; simp
  · rw [he]; show l.length ≤ 21; omega
  · rw [he]
    have hlen := len_put m2 (countS m2 l + m3) l hs
    show (putS m2 (countS m2 l + m3) l).length ≤ 21
    have h3 : (if countS m2 l + m3 > 0 then 1 else 0) ≤ 1 := by split <;> omega
    omega

theorem shown14_f : bazaarlaw14_shown.f = some true := by
  have g : sendS 5 0 [⟨1, 3⟩] 1 2 1 3 = (3, 0, [], 0) := by
    have hs : Srt [(⟨1, 3⟩ : S25)] := by simp [Srt, amtS]
    have ht : takeS [(⟨1, 3⟩ : S25)] 1 3 = ([], 0) := by
      rw [take_ok (by decide) hs (by decide) (by simp [countS])]
      simp [putS, countS]
    have hr : rightS [(⟨1, 3⟩ : S25)] = true := (right_iff _).2 ⟨by decide, hs⟩
    have hsp : spendF 5 0 2 = (3, 0, 0) := by decide
    have hm : mailOk 1 2 1 3 = true := by decide
    unfold sendS
    rw [hm, hsp, hr, ht]
    simp
  have hp : mail_Parse.f (⟨#[]⟩ : ByteArray) = some (0, 0, 0, 0, 140) := by
    unfold mail_Parse.f
    rw [if_neg (by decide)]
  unfold bazaarlaw14_shown.f
  rw [send_f (by decide), g]
  simp only [Option.bind_some]
  rw [hp]
  simp

theorem refcount_l0 (it : Int) (xs : List S25) (hlen : xs.length ≤ 1000) : ∀ (k i : Nat), i ≤ xs.length → xs.length < k + i → bazaarref12_Count.l0 k xs it (i : Int) = some (countS it (xs.drop i))
  | 0, i, hi, hk => by omega
  | k + 1, i, hi, hk => by
    rw [bazaarref12_Count.l0]
    by_cases h : i < xs.length
    · have e1 : wrap64 ((i : Int) + 1) = ((i + 1 : Nat) : Int) := by unfold wrap64; omega
      have e2 : rd_T25 xs (i : Int) = xs[i] := by unfold rd_T25; rw [Int.toNat_natCast, List.getD_eq_getElem?_getD, List.getElem?_eq_getElem h]; rfl
      rw [if_pos (by omega), if_pos (by omega), e1, refcount_l0 it xs hlen k (i + 1) (by omega) (by omega), e2, List.drop_eq_getElem_cons h, countS]
      split <;> rfl
    · rw [if_neg (by omega), List.drop_eq_nil_of_le (by omega)]
      rfl
theorem refcount_f {xs : List S25} (hlen : xs.length ≤ 1000) (it : Int) (k : Nat) (hk : 1001 ≤ k) : bazaarref12_Count.f k xs it = some (countS it xs) := by
  have := refcount_l0 it xs hlen k 0 (by omega) (by omega)
  simpa [bazaarref12_Count.f] using this

theorem mown_l1 (x0 : List S25) (h0 : x0.length ≤ 1000) : ∀ (k i : Nat) (l : List S25), l.length ≤ 21 → i ≤ l.length → l.length + 1001 < k + i → bazaarlaw14_MailOwn.l1 k x0 true x0 l (i : Int) = some true
  | 0, i, l, hl, hi, hk => by omega
  | k + 1, i, l, hl, hi, hk => by
    rw [bazaarlaw14_MailOwn.l1]
    by_cases h : i < l.length
    · have e1 : wrap64 ((i : Int) + 1) = ((i + 1 : Nat) : Int) := by unfold wrap64; omega
      rw [if_pos (by omega), if_pos (by omega), e1]
      exact mown_l1 x0 h0 k (i + 1) _ (by rw [List.length_set]; exact hl) (by rw [List.length_set]; omega) (by rw [List.length_set]; omega)
    · rw [if_neg (by omega), if_pos rfl, same_f x0 h0 k (by omega)]
      rfl
theorem mown_l0 (x0 : List S25) (h0 : x0.length ≤ 1000) (a0 a1 m0 m1 m2 m3 : Int) : ∀ (k i : Nat) (l : List S25), l.length ≤ 20 → i ≤ l.length → l.length + 1023 < k + i → bazaarlaw14_MailOwn.l0 k x0 true x0 l (i : Int) a0 a1 m0 m1 m2 m3 = some true
  | 0, i, l, hl, hi, hk => by omega
  | k + 1, i, l, hl, hi, hk => by
    rw [bazaarlaw14_MailOwn.l0]
    by_cases h : i < l.length
    · have e1 : wrap64 ((i : Int) + 1) = ((i + 1 : Nat) : Int) := by unfold wrap64; omega
      rw [if_pos (by omega), if_pos (by omega), e1]
      exact mown_l0 x0 h0 a0 a1 m0 m1 m2 m3 k (i + 1) _ (by rw [List.length_set]; exact hl) (by rw [List.length_set]; omega) (by rw [List.length_set]; omega)
    · have a := claim_len a0 a1 x0 m0 m1 m2 m3
      rw [if_neg (by omega), claim_f h0]
      simp only [Option.bind_some]
      exact mown_l1 x0 h0 k 0 _ a (by omega) (by omega)
theorem mown_f (k : Nat) (hk : 1100 ≤ k) (a0 a1 : Int) (l : List S25) (m0 m1 m2 m3 : Int) : bazaarlaw14_MailOwn.f k a0 a1 l m0 m1 m2 m3 = some true := by
  have hl := cut30 l
  unfold bazaarlaw14_MailOwn.f
  rw [shown14_f, cut14_f]
  simp only [Option.bind_some]
  rw [cut14_f, List.take_take]
  simp only [Option.bind_some, Nat.min_self]
  generalize l.take 30 = l at *
  have a1' := send_len a0 a1 l m0 m1 m2 m3
  rw [send_f (by omega)]
  simp only [Option.bind_some]
  exact mown_l0 l (by omega) a0 a1 m0 m1 m2 m3 k 0 _ a1' (by omega) (by omega)

/-- What an item counts for, of a mail's stack. -/
def nOf (it m2 m3 : Int) : Int := if it = m2 then m3 else 0
theorem moves1 (k : Nat) (hk : 1001 ≤ k) (a0 a1 : Int) (l : List S25) (hl : l.length ≤ 30) (m0 m1 m2 m3 it : Int) :
    bazaarlaw14_MailMoves.j1 (k + 1) l it true (claimS a0 a1 l m0 m1 m2 m3).2.2.1 (claimS a0 a1 l m0 m1 m2 m3).2.2.2 (nOf it m2 m3) false a0 a1 m0 m1 m2 m3 (claimS a0 a1 l m0 m1 m2 m3).1 (claimS a0 a1 l m0 m1 m2 m3).2.1 = some true := by
  have hcl := claim_len a0 a1 l m0 m1 m2 m3
  rw [bazaarlaw14_MailMoves.j1]
  rcases claim_cases a0 a1 l m0 m1 m2 m3 with ⟨e, he, hne⟩ | ⟨hm, hA, h1, h20, hs, ⟨h3, he⟩ | ⟨t1, t2, he⟩⟩
  · rw [he]
    simp [hne]
  · obtain ⟨f0, f1, f2, f3, f4, f5, f6⟩ := mail_fields hm
    have hw : wrap64 (a0 + m1 - m1) = a0 := by obtain ⟨b1, b2, b3⟩ := hA; unfold wrap64; omega
    have hc := count_amt it l hs
    have hn : nOf it m2 m3 = 0 := by unfold nOf; split <;> omega
    have hw2 : wrap64 (countS it l - 0) = countS it l := by unfold wrap64; omega
    rw [he, if_neg (by decide), if_pos rfl, if_pos rfl, if_pos hw, if_pos rfl, refcount_f (xs := l) (by omega) it k hk]
    simp only [Option.bind_some]
    rw [hn, hw2]
    simp
  · obtain ⟨f0, f1, f2, f3, f4, f5, f6⟩ := mail_fields hm
    rw [he] at hcl
    have hcl' : (putS m2 (countS m2 l + m3) l).length ≤ 21 := hcl
    have hw : wrap64 (a0 + m1 - m1) = a0 := by obtain ⟨b1, b2, b3⟩ := hA; unfold wrap64; omega
    have hc := count_amt it l hs
    have hc2 := count_amt m2 l hs
    have hcp : wrap64 (countS it (putS m2 (countS m2 l + m3) l) - nOf it m2 m3) = countS it l := by
      unfold nOf
      by_cases hi : it = m2
      · subst hi
        rw [count_put it _ (by omega) l hs, if_pos rfl]
        unfold wrap64; omega
      · rw [count_put_ne m2 _ it hi, if_neg hi]
        unfold wrap64; omega
    rw [he, if_neg (by decide), if_pos rfl, if_pos rfl, if_pos hw, if_pos rfl, refcount_f (xs := putS m2 (countS m2 l + m3) l) (by omega) it k hk, refcount_f (xs := l) (by omega) it k hk]
    simp only [Option.bind_some]
    rw [hcp]
    simp
theorem moves_f (k : Nat) (hk : 1003 ≤ k) (a0 a1 : Int) (l : List S25) (m0 m1 m2 m3 it : Int) : bazaarlaw14_MailMoves.f k a0 a1 l m0 m1 m2 m3 it = some true := by
  have hl := cut30 l
  obtain ⟨k, rfl⟩ : ∃ k', k = k' + 2 := ⟨k - 2, by omega⟩
  unfold bazaarlaw14_MailMoves.f
  rw [shown14_f, cut14_f]
  simp only [Option.bind_some]
  generalize l.take 30 = l at *
  rw [send_f (by omega), claim_f (by omega)]
  simp only [Option.bind_some]
  have key : bazaarlaw14_MailMoves.j0 (k + 2) l it true (sendS a0 a1 l m0 m1 m2 m3).2.2.1 (sendS a0 a1 l m0 m1 m2 m3).2.2.2 (claimS a0 a1 l m0 m1 m2 m3).2.2.1 (claimS a0 a1 l m0 m1 m2 m3).2.2.2 (nOf it m2 m3) a0 a1 m0 m1 m2 m3 (sendS a0 a1 l m0 m1 m2 m3).1 (sendS a0 a1 l m0 m1 m2 m3).2.1 (claimS a0 a1 l m0 m1 m2 m3).1 (claimS a0 a1 l m0 m1 m2 m3).2.1 = some true := by
    have hm1 := moves1 k (by omega) a0 a1 l hl m0 m1 m2 m3 it
    have hsl := send_len a0 a1 l m0 m1 m2 m3
    rw [bazaarlaw14_MailMoves.j0]
    rcases send_cases a0 a1 l m0 m1 m2 m3 with ⟨e, he, hne⟩ | ⟨hm, hA, h1, h20, hs, ⟨h3, he⟩ | ⟨t1, t2, he⟩⟩
    · rw [he, if_neg hne]
      exact hm1
    · obtain ⟨f0, f1, f2, f3, f4, f5, f6⟩ := mail_fields hm
      have hw : wrap64 (a0 - m1 + m1) = a0 := by obtain ⟨b1, b2, b3⟩ := hA; unfold wrap64; omega
      have hc := count_amt it l hs
      have hn : nOf it m2 m3 = 0 := by unfold nOf; split <;> omega
      have hw2 : wrap64 (countS it l + nOf it m2 m3) = countS it l := by rw [hn]; unfold wrap64; omega
      rw [he, if_pos rfl, if_pos hw, if_pos rfl, refcount_f (xs := l) (by omega) it (k + 1) (by omega)]
      simp only [Option.bind_some]
      rw [hw2, show (countS it l != countS it l) = false by simp]
      exact hm1
    · obtain ⟨f0, f1, f2, f3, f4, f5, f6⟩ := mail_fields hm
      rw [he] at hsl
      have hsl' : (putS m2 (countS m2 l - m3) l).length ≤ 20 := hsl
      have hw : wrap64 (a0 - m1 + m1) = a0 := by obtain ⟨b1, b2, b3⟩ := hA; unfold wrap64; omega
      have hc := count_amt it l hs
      have hc2 := count_amt m2 l hs
      have hcp : wrap64 (countS it (putS m2 (countS m2 l - m3) l) + nOf it m2 m3) = countS it l := by
        unfold nOf
        by_cases hi : it = m2
        · subst hi
          rw [count_put it _ (by omega) l hs, if_pos rfl]
          unfold wrap64; omega
        · rw [count_put_ne m2 _ it hi, if_neg hi]
          unfold wrap64; omega
      rw [he, if_pos rfl, if_pos hw, if_pos rfl, refcount_f (xs := putS m2 (countS m2 l - m3) l) (by omega) it (k + 1) (by omega), refcount_f (xs := l) (by omega) it (k + 1) (by omega)]
      simp only [Option.bind_some]
      rw [hcp, show (countS it l != countS it l) = false by simp]
      exact hm1
  by_cases hi : it = m2
  · rw [if_pos hi]
    have hn : nOf it m2 m3 = m3 := by unfold nOf; rw [if_pos hi]
    rw [hn] at key
    exact key
  · rw [if_neg hi]
    have hn : nOf it m2 m3 = 0 := by unfold nOf; rw [if_neg hi]
    rw [hn] at key
    exact key
end Go.Proofs.YtoclldkgkmhgaaaDoor.K
