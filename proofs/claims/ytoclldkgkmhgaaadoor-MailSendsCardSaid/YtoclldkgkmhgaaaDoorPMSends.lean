/- The plain law MailSends. -/
import Derived.Test.YtoclldkgkmhgaaaDoorPMailA
import Derived.Test.YtoclldkgkmhgaaaDoorPMRight
import Derived.Test.YtoclldkgkmhgaaaDoorPGRef
import Derived.Test.YtoclldkgkmhgaaaDoorPARef
import Derived.Test.YtoclldkgkmhgaaaDoorKx49
namespace Go.Proofs.YtoclldkgkmhgaaaDoor.K
open Go.RowKit Go.Proofs.YtoclldkgkmhgaaaDoorW.PrintWords Go.Proofs.YtoclldkgkmhgaaaDoorW.PrintLast
set_option linter.unusedVariables false
set_option linter.unusedSimpArgs false

theorem mr_copied {l : List S25} (h : l.length ≤ 1000) : bazaarref14_copied.f l = some l := by
  unfold bazaarref14_copied.f
  rw [if_pos (by simp; omega)]
  rfl
theorem mr_send (k : Nat) (hk : 2002 ≤ k) (a0 a1 : Int) {l : List S25} (hl : l.length ≤ 1000) (m0 m1 m2 m3 : Int) : bazaarref14_Send.f k a0 a1 l m0 m1 m2 m3 = some (sendS a0 a1 l m0 m1 m2 m3) := by
  obtain ⟨j, rfl⟩ : ∃ j, k = j + 1 := ⟨k - 1, by omega⟩
  unfold bazaarref14_Send.f sendS
  rw [mr_right, ar_spend, gr_right hl _ (by omega), gr_take hl _ _ _ hk, mr_copied hl]
  simp only [Option.bind_some]
  by_cases hm : mailOk m0 m1 m2 m3 = true
  · obtain ⟨f0, f1, f2, f3, f4, f5, f6⟩ := mail_fields hm
    rw [if_pos hm, if_pos hm]
    by_cases hs : (spendF a0 a1 m1).2.2 = 0
    · rw [if_pos hs, if_pos hs]
      by_cases hr : rightS l = true
      · rw [if_pos hr, if_pos hr]
        by_cases h3 : m3 = 0
        · rw [if_pos h3, if_neg (show ¬ m3 > 0 by omega)]
        · rw [if_neg h3, if_pos (show m3 > 0 by omega)]
          by_cases ht : (takeS l m2 m3).2 = 0
          · rw [if_pos ht, if_pos ht]
          · rw [if_neg ht, if_neg ht]
      · rw [if_neg hr, if_neg hr]
    · rw [if_neg hs, if_neg hs]
  · rw [if_neg hm, if_neg hm]
theorem mr_claim (k : Nat) (hk : 2002 ≤ k) (a0 a1 : Int) {l : List S25} (hl : l.length ≤ 1000) (m0 m1 m2 m3 : Int) : bazaarref14_Claim.f k a0 a1 l m0 m1 m2 m3 = some (claimS a0 a1 l m0 m1 m2 m3) := by
  obtain ⟨j, rfl⟩ : ∃ j, k = j + 1 := ⟨k - 1, by omega⟩
  unfold bazaarref14_Claim.f claimS
  rw [mr_right, ar_earn, gr_right hl _ (by omega), gr_give hl _ _ _ hk, mr_copied hl]
  simp only [Option.bind_some]
  by_cases hm : mailOk m0 m1 m2 m3 = true
  · obtain ⟨f0, f1, f2, f3, f4, f5, f6⟩ := mail_fields hm
    rw [if_pos hm, if_pos hm]
    by_cases hs : (earnF a0 a1 m1).2.2 = 0
    · rw [if_pos hs, if_pos hs]
      by_cases hr : rightS l = true
      · rw [if_pos hr, if_pos hr]
        by_cases h3 : m3 = 0
        · rw [if_pos h3, if_neg (show ¬ m3 > 0 by omega)]
        · rw [if_neg h3, if_pos (show m3 > 0 by omega)]
          by_cases ht : (giveS l m2 m3).2 = 0
          · rw [if_pos ht, if_pos ht]
          · rw [if_neg ht, if_neg ht]
      · rw [if_neg hr, if_neg hr]
    · rw [if_neg hs, if_neg hs]
  · rw [if_neg hm, if_neg hm]
theorem sends_f (k : Nat) (hk : 2100 ≤ k) (a0 a1 : Int) (l : List S25) (m0 m1 m2 m3 : Int) : bazaarlaw14_MailSends.f k a0 a1 l m0 m1 m2 m3 = some true := by
  have hl := cut30 l
  unfold bazaarlaw14_MailSends.f
  rw [shown14_f, cut14_f]
  simp only [Option.bind_some]
  generalize l.take 30 = l at *
  have hsl := send_len a0 a1 l m0 m1 m2 m3
  have hcl := claim_len a0 a1 l m0 m1 m2 m3
  rw [send_f (by omega), claim_f (by omega), mr_send k (by omega) a0 a1 (by omega), mr_claim k (by omega) a0 a1 (by omega)]
  simp only [Option.bind_some]
  rw [same_f _ (by omega) k (by omega), same_f _ (by omega) k (by omega)]
  simp
end Go.Proofs.YtoclldkgkmhgaaaDoor.K
