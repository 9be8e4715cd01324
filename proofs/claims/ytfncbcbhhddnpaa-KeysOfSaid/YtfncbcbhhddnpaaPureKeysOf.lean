/- KeysOf's plain law. -/
import Derived.Test.YtfncbcbhhddnpaaKx19
import Derived.Test.YtfncbcbhhddnpaaPLess
namespace Go.Proofs.Ytfncbcbhhddnpaa.Pure
open Go.RowKit Go.Proofs.Ytfncbcbhhddnpaa.K
set_option linter.unusedVariables false
set_option linter.unusedSimpArgs false
theorem kb_size' (k a i m : Int) : (str (kbL k a i m)).size ≤ 13 := by
  show (kbL k a i m).length ≤ 13
  have := (fa_nat k).2
  have := (fi_nat k).2
  have := (fl_nat k).2
  simp [kbL, be_length]
  omega
theorem of_right {k a : Int} (hk : k = 2 ∨ k = 3) (ha : 1 ≤ a ∧ a ≤ 1000000) : keys_Of.f k a = some (str (UInt8.ofNat (fmark k).toNat :: be a 4), str (UInt8.ofNat (fmark k).toNat :: be (a + 1) 4), 0) := by
  unfold keys_Of.f
  rw [if_pos ⟨hk, ha⟩]
  have e1 := bytes1 (fmark k) a 4 (by omega)
  have e2 := bytes1 (fmark k) (a + 1) 4 (by omega)
  rw [show ((4 : Nat) : Int) = 4 from rfl] at e1 e2
  rw [e1, e2]
  rfl
theorem of_wrong {k a : Int} (h : ¬ ((k = 2 ∨ k = 3) ∧ (1 ≤ a ∧ a ≤ 1000000))) : keys_Of.f k a = some (⟨#[]⟩, ⟨#[]⟩, 100) := by
  unfold keys_Of.f
  rw [if_neg h]
theorem mark_ne {k k' : Int} (h1 : 1 ≤ k ∧ k ≤ 6) (h2 : k' = 2 ∨ k' = 3) (h : k ≠ k') : UInt8.ofNat (fmark k).toNat ≠ UInt8.ofNat (fmark k').toNat := by
  have : k = 1 ∨ k = 2 ∨ k = 3 ∨ k = 4 ∨ k = 5 ∨ k = 6 := by omega
  rcases h2 with rfl | rfl <;> rcases this with rfl | rfl | rfl | rfl | rfl | rfl <;> first | (exact absurd rfl h) | decide
theorem KeysOf (k a k' a' i' m' : Int) (wk : (Lit.int .i64 k).wf = true) (wa : (Lit.int .u32 a).wf = true) (wk' : (Lit.int .i64 k').wf = true) (wa' : (Lit.int .u32 a').wf = true) (wi' : (Lit.int .u16 i').wf = true) (wm' : (Lit.int .u32 m').wf = true) :
    bazaarlaw10_KeysOf.f 60 k a k' a' i' m' = some true := by
  unfold bazaarlaw10_KeysOf.f
  rw [shown_true]
  have I' := wf_u16 wi'
  by_cases ho : (k = 2 ∨ k = 3) ∧ (1 ≤ a ∧ a ≤ 1000000)
  case neg =>
    rw [of_wrong ho]
    obtain ⟨x, hx⟩ : ∃ x, keys_Key.f k' a' i' m' = some x := by
      rcases key_cases k' a' i' m' wi' with ⟨hr', e'⟩ | ⟨hr', e'⟩ <;> exact ⟨_, e'⟩
    rw [hx]
    simp only [Option.bind_some, if_true]
    have hn : (⟨#[]⟩ : ByteArray).toList = [] := by rw [ByteArray.toList_eq]
    rw [if_neg (by decide), if_pos hn, if_pos hn]
    by_cases h1 : a < 1
    · rw [if_pos h1]
    · rw [if_neg h1]
      by_cases h2 : a > 1000000
      · rw [if_pos h2]
      · rw [if_neg h2, if_neg (fun h => ho ⟨.inl h, by omega⟩)]
        have : k ≠ 3 := fun h => ho ⟨.inr h, by omega⟩
        simp [this]
  rw [of_right ho.1 ho.2]
  rcases key_cases k' a' i' m' wi' with ⟨hr', e'⟩ | ⟨hr', e'⟩ <;> rw [e'] <;> simp only [Option.bind_some, if_true]
  case inr => rw [if_neg (by decide)]
  rw [less_eq _ _ _ (by have := kb_size' k' a' i' m'; omega) (by have := kb_size' k' a' i' m'; omega), less_eq _ _ _ (by have := kb_size' k' a' i' m'; omega) (by have := kb_size' k' a' i' m'; omega)]
  simp only [Option.bind_some, str_toList]
  have R := right_cases hr'
  have hk6 : 1 ≤ k' ∧ k' ≤ 6 := by rcases R with R | R | R | R | R | R <;> omega
  by_cases hk : k' = k
  · subst hk
    have ha4 : (fa k').toNat = 4 := by rcases ho.1 with rfl | rfl <;> rfl
    have hA : 0 ≤ a' ∧ a' ≤ 1000000 := by rcases R with R | R | R | R | R | R <;> omega
    have L : ∀ b : Int, 0 ≤ b → b < 4294967296 → lexlt (kbL k' a' i' m') (UInt8.ofNat (fmark k').toNat :: be b 4) = decide (a' < b) := fun b h0 h1 => by
      unfold kbL
      rw [ha4]
      simp only [lexlt, if_true]
      rw [lexlt_longer _ _ _ (by simp [be_length]), lt_be4 a' b (by omega) (by omega) h0 h1]
    rw [L a (by omega) (by omega), L (a + 1) (by omega) (by omega)]
    by_cases h1 : a' < a
    · rw [if_pos (by simpa using h1)]
      have : (a' == a) = false := by simp; omega
      simp [this]
    · rw [if_neg (by simpa using h1)]
      have : decide (a' < a + 1) = (a' == a) := by rw [Bool.eq_iff_iff]; simp; omega
      simp [this]
  · have ne := mark_ne hk6 ho.1 hk
    have L : ∀ b : Int, lexlt (kbL k' a' i' m') (UInt8.ofNat (fmark k).toNat :: be b 4) = decide ((UInt8.ofNat (fmark k').toNat).toNat < (UInt8.ofNat (fmark k).toNat).toNat) := fun b => by
      unfold kbL
      simp only [lexlt]
      rw [if_neg ne]
    rw [L a, L (a + 1)]
    cases hd : decide ((UInt8.ofNat (fmark k').toNat).toNat < (UInt8.ofNat (fmark k).toNat).toNat) <;> simp [hk]
end Go.Proofs.Ytfncbcbhhddnpaa.Pure
