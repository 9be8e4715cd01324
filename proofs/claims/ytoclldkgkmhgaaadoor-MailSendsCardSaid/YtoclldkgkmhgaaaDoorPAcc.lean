/- Plain facts on accounts' four ops. -/
import Derived.Test.YtoclldkgkmhgaaaDoorCM
namespace Go.Proofs.YtoclldkgkmhgaaaDoor.Pure
open Go.RowKit Go.Proofs.YtoclldkgkmhgaaaDoor.K
set_option linter.unusedVariables false
set_option linter.unusedSimpArgs false
/-- An account: both amounts, their sum too. -/
def Acc (a b : Int) : Prop := (0 ≤ a ∧ a ≤ 1152921504606846976) ∧ (0 ≤ b ∧ b ≤ 1152921504606846976) ∧ a + b ≤ 1152921504606846976
theorem acc_or (a b : Int) : (Acc a b ∧ (addF a b).2 = 0) ∨ (¬ Acc a b ∧ (addF a b).2 ≠ 0) := by
  rcases add_cases a b with ⟨h1, h2, h3, e⟩ | ⟨h1, h2, h3, e⟩ | ⟨h1, e⟩
  · rw [e]; rw [amt_iff] at h1 h2; exact .inl ⟨⟨h1, h2, h3⟩, rfl⟩
  · rw [e]; exact .inr ⟨fun h => by have := h.2.2; omega, by decide⟩
  · rw [e]; exact .inr ⟨fun h => h1 ⟨(amt_iff _).2 h.1, (amt_iff _).2 h.2.1⟩, by decide⟩
theorem does_cases (a b x y c : Int) : (Acc a b ∧ c = 0 ∧ doesF a b x y c = (x, y, 0)) ∨ ∃ e, e ≠ 0 ∧ doesF a b x y c = (0, 0, e) := by
  unfold doesF
  rcases acc_or a b with ⟨h, e⟩ | ⟨h, e⟩
  · rw [if_pos e]
    by_cases hc : c = 0
    · rw [if_pos hc]; exact .inl ⟨h, hc, rfl⟩
    · rw [if_neg hc]; exact .inr ⟨c, hc, rfl⟩
  · rw [if_neg e]; exact .inr ⟨130, by decide, rfl⟩
theorem spend_cases (a b n : Int) : (Acc a b ∧ 0 ≤ n ∧ n ≤ a ∧ spendF a b n = (a - n, b, 0)) ∨ ∃ e, e ≠ 0 ∧ spendF a b n = (0, 0, e) := by
  unfold spendF
  rcases sub_cases a n with ⟨h1, h2, h3, e⟩ | ⟨h1, h2, h3, e⟩ | ⟨h1, e⟩ <;> rw [e] <;> simp only
  · rcases does_cases a b (a - n) b 0 with ⟨k, _, f⟩ | f
    · exact .inl ⟨k, ((amt_iff _).1 h2).1, h3, f⟩
    · exact .inr f
  · rcases does_cases a b 0 b 112 with ⟨k, hc, f⟩ | f
    · exact absurd hc (by decide)
    · exact .inr f
  · rcases does_cases a b 0 b 110 with ⟨k, hc, f⟩ | f
    · exact absurd hc (by decide)
    · exact .inr f
theorem earn_cases (a b n : Int) : (Acc a b ∧ 0 ≤ n ∧ a + n + b ≤ 1152921504606846976 ∧ earnF a b n = (a + n, b, 0)) ∨ ∃ e, e ≠ 0 ∧ earnF a b n = (0, 0, e) := by
  unfold earnF
  rcases add_cases a n with ⟨h1, h2, h3, e⟩ | ⟨h1, h2, h3, e⟩ | ⟨h1, e⟩ <;> rw [e] <;> simp only
  · rw [if_pos trivial]
    rcases add_cases (a + n) b with ⟨k1, k2, k3, f⟩ | ⟨k1, k2, k3, f⟩ | ⟨k1, f⟩ <;> rw [f] <;> simp only
    · rcases does_cases a b (a + n) b 0 with ⟨k, _, f⟩ | f
      · exact .inl ⟨k, ((amt_iff _).1 h2).1, k3, f⟩
      · exact .inr f
    · rcases does_cases a b (a + n) b 111 with ⟨k, hc, f⟩ | f
      · exact absurd hc (by decide)
      · exact .inr f
    · rcases does_cases a b (a + n) b 110 with ⟨k, hc, f⟩ | f
      · exact absurd hc (by decide)
      · exact .inr f
  · rw [if_neg (by decide)]
    rcases does_cases a b 0 b 111 with ⟨k, hc, f⟩ | f
    · exact absurd hc (by decide)
    · exact .inr f
  · rw [if_neg (by decide)]
    rcases does_cases a b 0 b 110 with ⟨k, hc, f⟩ | f
    · exact absurd hc (by decide)
    · exact .inr f
end Go.Proofs.YtoclldkgkmhgaaaDoor.Pure
