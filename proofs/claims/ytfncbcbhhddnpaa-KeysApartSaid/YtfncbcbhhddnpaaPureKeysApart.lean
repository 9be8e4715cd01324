/- KeysApart's plain law. -/
import Derived.Test.YtfncbcbhhddnpaaKx17
import Derived.Test.YtfncbcbhhddnpaaPParse
namespace Go.Proofs.Ytfncbcbhhddnpaa.Pure
open Go.RowKit Go.Proofs.Ytfncbcbhhddnpaa.K
set_option linter.unusedVariables false
theorem KeysApart (k a i m k' a' i' m' : Int) (wk : (Lit.int .i64 k).wf = true) (wa : (Lit.int .u32 a).wf = true) (wi : (Lit.int .u16 i).wf = true) (wm : (Lit.int .u32 m).wf = true) (wk' : (Lit.int .i64 k').wf = true) (wa' : (Lit.int .u32 a').wf = true) (wi' : (Lit.int .u16 i').wf = true) (wm' : (Lit.int .u32 m').wf = true) :
    bazaarlaw10_KeysApart.f k a i m k' a' i' m' = some true := by
  unfold bazaarlaw10_KeysApart.f
  rw [shown_true]
  rcases key_cases k a i m wi with ⟨hr, e⟩ | ⟨hr, e⟩ <;> rcases key_cases k' a' i' m' wi' with ⟨hr', e'⟩ | ⟨hr', e'⟩ <;> rw [e, e'] <;> simp only [Option.bind_some] <;> try rfl
  simp only [if_pos, Option.some.injEq, str_list, beq_iff_eq]
  rw [Bool.eq_iff_iff]
  simp only [beq_iff_eq, Bool.and_eq_true]
  constructor
  · intro h
    exact kb_inj hr (wf_u16 wi).1 (wf_u16 wi).2 hr' (wf_u16 wi').1 (wf_u16 wi').2 h
  · rintro ⟨rfl, rfl, rfl, rfl⟩
    rfl
end Go.Proofs.Ytfncbcbhhddnpaa.Pure
