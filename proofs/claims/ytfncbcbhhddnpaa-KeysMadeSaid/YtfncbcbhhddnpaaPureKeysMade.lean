/- KeysMade's plain law. -/
import Derived.Test.YtfncbcbhhddnpaaKx13
import Derived.Test.YtfncbcbhhddnpaaPMadeP
namespace Go.Proofs.Ytfncbcbhhddnpaa.Pure
open Go.RowKit Go.Proofs.Ytfncbcbhhddnpaa.K Go.Proofs.YtfncbcbhhddnpaaW.PrintWords Go.Proofs.YtfncbcbhhddnpaaW.PrintMore
set_option linter.unusedVariables false
set_option linter.unusedSimpArgs false
theorem wf_u32 {n : Int} (h : (Lit.int .u32 n).wf = true) : 0 ≤ n ∧ n ≤ 4294967295 := by
  simp [Lit.wf, IntKind.min, IntKind.max, IntKind.signed, IntKind.bits] at h
  omega
theorem right_more (k a i m : Int) : ∀ d, keys_Right.f (3 + d) k a i m = some (rightB k a i m)
  | 0 => right_f k a i m
  | d + 1 => keys_Right.mono k a i m (3 + d) _ (right_more k a i m d)
theorem parse_some (s : ByteArray) (hs : s.size ≤ 1000) : ∃ p, keys_Parse.f s = some p := by
  rcases parse_cases s hs with e | ⟨k, a, i, m, e, _⟩
  · exact ⟨_, e⟩
  · exact ⟨_, e⟩
theorem KeysMade (k a i m : Int) (s : ByteArray) (wk : (Lit.int .i64 k).wf = true) (wa : (Lit.int .u32 a).wf = true) (wi : (Lit.int .u16 i).wf = true) (wm : (Lit.int .u32 m).wf = true) (ws : s.size ≤ 140737488351232) :
    bazaarlaw10_KeysMade.f 60 k a i m s = some true := by
  unfold bazaarlaw10_KeysMade.f
  rw [shown_true]
  have hmn : 0 ≤ mn (s.size : Int) 20 ∧ mn (s.size : Int) 20 ≤ s.size ∧ mn (s.size : Int) 20 ≤ 20 := by unfold mn; split <;> omega
  have hs : (s.extract 0 (mn (s.size : Int) 20).toNat).size ≤ 20 := by rw [ByteArray.size_extract]; omega
  generalize s.extract 0 (mn (s.size : Int) 20).toNat = u at hs
  simp only [Option.bind_some]
  rw [if_pos hmn.1, if_pos hmn.2.1]
  have hr : keys_Right.f 60 k a i m = some (rightB k a i m) := right_more k a i m 57
  rw [refkey_is k a i m (wf_u32 wa) (wf_u16 wi) (wf_u32 wm), refparse_is u hs, hr, refright_is 60 (by omega) k a i m (wf_u32 wa).1]
  obtain ⟨p, hp⟩ := parse_some u (by omega)
  rw [hp]
  have hq : ∃ q, keys_Key.f k a i m = some q := by
    rcases key_cases k a i m wi with ⟨_, e⟩ | ⟨_, e⟩
    · exact ⟨_, e⟩
    · exact ⟨_, e⟩
  obtain ⟨q, hq⟩ := hq
  rw [hq]
  simp
end Go.Proofs.Ytfncbcbhhddnpaa.Pure
