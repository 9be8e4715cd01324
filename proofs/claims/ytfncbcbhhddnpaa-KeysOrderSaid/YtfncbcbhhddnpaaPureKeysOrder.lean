/- KeysOrder's plain law. -/
import Derived.Test.YtfncbcbhhddnpaaKx16
import Derived.Test.YtfncbcbhhddnpaaPLess
namespace Go.Proofs.Ytfncbcbhhddnpaa.Pure
open Go.RowKit Go.Proofs.Ytfncbcbhhddnpaa.K
set_option linter.unusedVariables false
set_option linter.unusedSimpArgs false
theorem kb_size (k a i m : Int) : (str (kbL k a i m)).size ≤ 13 := by
  show (kbL k a i m).length ≤ 13
  have := (fa_nat k).2
  have := (fi_nat k).2
  have := (fl_nat k).2
  simp [kbL, be_length]
  omega
theorem KeysOrder (k a i m k' a' i' m' : Int) (wk : (Lit.int .i64 k).wf = true) (wa : (Lit.int .u32 a).wf = true) (wi : (Lit.int .u16 i).wf = true) (wm : (Lit.int .u32 m).wf = true) (wk' : (Lit.int .i64 k').wf = true) (wa' : (Lit.int .u32 a').wf = true) (wi' : (Lit.int .u16 i').wf = true) (wm' : (Lit.int .u32 m').wf = true) :
    bazaarlaw10_KeysOrder.f 60 k a i m k' a' i' m' = some true := by
  unfold bazaarlaw10_KeysOrder.f
  rw [shown_true]
  have I := wf_u16 wi
  have I' := wf_u16 wi'
  rcases key_cases k a i m wi with ⟨hr, e⟩ | ⟨hr, e⟩ <;> rcases key_cases k' a' i' m' wi' with ⟨hr', e'⟩ | ⟨hr', e'⟩ <;> rw [e, e'] <;> simp only [Option.bind_some, if_true] <;> try rfl
  by_cases hk : k = k'
  case neg => rw [if_neg hk]
  rw [if_pos hk]
  by_cases ha : a = a'
  case neg => rw [if_neg ha]
  rw [if_pos ha, less_eq _ _ _ (by have := kb_size k a i m; omega) (by have := kb_size k a i m; omega)]
  subst hk ha
  simp only [Option.bind_some, str_toList]
  have hE : ((str (kbL k a i m)).toList == (str (kbL k a i' m')).toList) = (k == k && (a == a && (i == i' && m == m'))) := by
    rw [Bool.eq_iff_iff]
    simp only [beq_iff_eq, Bool.and_eq_true, str_list]
    constructor
    · exact fun h => ⟨trivial, trivial, (kb_inj hr I.1 I.2 hr' I'.1 I'.2 h).2.2⟩
    · rintro ⟨_, _, rfl, rfl⟩; rfl
  rw [hE]
  have key : lexlt (kbL k a i m) (kbL k a i' m') = if i < i' then true else decide (m < m') := by
    have pre : ∀ x u v, lexlt (UInt8.ofNat (fmark k).toNat :: (be a x ++ u)) (UInt8.ofNat (fmark k).toNat :: (be a x ++ v)) = lexlt u v := fun x u v => by
      simp [lexlt, lexlt_append]
    unfold kbL
    rw [pre]
    rcases right_cases hr with ⟨rfl, hm, rfl, h1⟩ | ⟨rfl, rfl, rfl, h1⟩ | ⟨rfl, rfl, h1⟩ | ⟨rfl, rfl, rfl, h1⟩ | ⟨rfl, rfl, rfl, h1⟩ | ⟨rfl, rfl, h1⟩
    · have h2 := right_cases hr'
      have : i' = 0 ∧ 1 ≤ m' ∧ m' ≤ 1073741824 := by rcases h2 with h2 | h2 | h2 | h2 | h2 | h2 <;> omega
      show lexlt ([] ++ be m 4) ([] ++ be m' 4) = _
      rw [List.nil_append, List.nil_append, lt_be4 m m' (by omega) (by omega) (by omega) (by omega), if_neg (by omega)]
    · have h2 := right_cases hr'
      have : i' = 0 ∧ m' = 0 := by rcases h2 with h2 | h2 | h2 | h2 | h2 | h2 <;> omega
      rw [if_neg (by omega), this.2]
      exact (lexlt_refl _).trans (by simp)
    · have h2 := right_cases hr'
      have : m' = 0 := by rcases h2 with h2 | h2 | h2 | h2 | h2 | h2 <;> omega
      subst this
      show lexlt (be i 2 ++ []) (be i' 2 ++ []) = _
      rw [List.append_nil, List.append_nil, lt_be2 i i' (by omega) (by omega) (by omega) (by omega)]
      by_cases h : i < i' <;> simp [h]
    · have h2 := right_cases hr'
      have : i' = 0 ∧ m' = 0 := by rcases h2 with h2 | h2 | h2 | h2 | h2 | h2 <;> omega
      rw [if_neg (by omega), this.2]
      exact (lexlt_refl _).trans (by simp)
    · have h2 := right_cases hr'
      have : i' = 0 ∧ m' = 0 := by rcases h2 with h2 | h2 | h2 | h2 | h2 | h2 <;> omega
      rw [if_neg (by omega), this.2]
      exact (lexlt_refl _).trans (by simp)
    · have h2 := right_cases hr'
      have : m' = 0 := by rcases h2 with h2 | h2 | h2 | h2 | h2 | h2 <;> omega
      subst this
      show lexlt (be i 2 ++ []) (be i' 2 ++ []) = _
      rw [List.append_nil, List.append_nil, lt_be2 i i' (by omega) (by omega) (by omega) (by omega)]
      by_cases h : i < i' <;> simp [h]
  rw [key]
  by_cases h : i < i'
  · simp [h]
  · simp [h]
end Go.Proofs.Ytfncbcbhhddnpaa.Pure
