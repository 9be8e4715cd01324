/- KeysBack's plain law. -/
import Derived.Test.YtfncbcbhhddnpaaKx14
import Derived.Test.YtfncbcbhhddnpaaPParse
namespace Go.Proofs.Ytfncbcbhhddnpaa.Pure
open Go.RowKit Go.Proofs.Ytfncbcbhhddnpaa.K Go.Proofs.YtfncbcbhhddnpaaW.PrintWords Go.Proofs.YtfncbcbhhddnpaaW.PrintMore
set_option linter.unusedVariables false
set_option linter.unusedSimpArgs false
theorem back_tail (s : ByteArray) (hs : s.size ≤ 1000) : bazaarlaw10_KeysBack.j0 1 s true false = some true := by
  rw [bazaarlaw10_KeysBack.j0]
  rw [if_neg (by simp)]
  rcases parse_cases s hs with e | ⟨k, a, i, m, e, hr, h0, h1, hb⟩
  · rw [e]
    simp only [Option.bind_some]
    rw [key_wrong (by decide) (by decide) (by decide)]
    simp
  · rw [e]
    simp only [Option.bind_some]
    rw [key_right hr h0 h1]
    simp [str_list, hb, ByteArray.toList_eq]
    rfl
theorem KeysBack (k a i m : Int) (s : ByteArray) (wk : (Lit.int .i64 k).wf = true) (wa : (Lit.int .u32 a).wf = true) (wi : (Lit.int .u16 i).wf = true) (wm : (Lit.int .u32 m).wf = true) (ws : s.size ≤ 140737488351232) :
    bazaarlaw10_KeysBack.f 1 k a i m s = some true := by
  unfold bazaarlaw10_KeysBack.f
  rw [shown_true]
  have hmn : 0 ≤ mn (s.size : Int) 20 ∧ mn (s.size : Int) 20 ≤ s.size ∧ mn (s.size : Int) 20 ≤ 20 := by unfold mn; split <;> omega
  have hs : (s.extract 0 (mn (s.size : Int) 20).toNat).size ≤ 1000 := by rw [ByteArray.size_extract]; omega
  generalize s.extract 0 (mn (s.size : Int) 20).toNat = u at hs
  simp only [Option.bind_some]
  rw [if_pos hmn.1, if_pos hmn.2.1]
  rcases key_cases k a i m wi with ⟨hr, e⟩ | ⟨hr, e⟩
  · rw [e]
    simp only [Option.bind_some]
    rw [parse_kb hr (wf_u16 wi).1 (wf_u16 wi).2]
    have hz : (str (kbL k a i m)).size ≤ 24 := by
      show (kbL k a i m).length ≤ 24
      have := (fa_nat k).2
      have := (fi_nat k).2
      have := (fl_nat k).2
      simp [kbL, be_length]
      omega
    have hd : decide (((str (kbL k a i m)).size : Int) > 24) = false := by simp; omega
    simp only [Option.bind_some, hd, beq_self_eq_true, Bool.not_true, Bool.or_self, if_pos, Bool.false_eq_true, if_false]
    exact back_tail u hs
  · rw [e]
    simp only [Option.bind_some]
    rw [show keys_Parse.f (⟨#[]⟩ : ByteArray) = some (0, 0, 0, 0, 100) from by decide]
    exact back_tail u hs
end Go.Proofs.Ytfncbcbhhddnpaa.Pure
