/- money.Move: its contract. -/
import Derived.Test.YtgnjodocggihoaaDoorMOps
import Derived.ScopeJumps
import Derived.WalkMore
namespace Go.Proofs.YtgnjodocggihoaaDoor.K
open Go.RowKit Go.Proofs.YtgnjodocggihoaaDoorW.PrintWords Go.Proofs.YtgnjodocggihoaaDoorW.PrintLast Go.Proofs.YtgnjodocggihoaaDoorW.PrintMore
set_option linter.unusedVariables false
set_option linter.unusedSimpArgs false

set_option maxHeartbeats 2000000 in
theorem money_Move.calls (a0 : Int) (a1 : Int) (a2 : Int) (r1 : Int) (r2 : Int) (r3 : Int) (w : World) (hL : Laid w) (h : money_Move.f a0 a1 a2 = some (r1, r2, r3)) :
    Calls Tryd.prog 68 #[.int .i64 a0, .int .i64 a1, .int .i64 a2] w fun e w' => e = .returned (.tuple #[.int .i64 r1, .int .i64 r2, .int .i64 r3]) ∧ Below w.heap.size w w' := by
  have e1 : moveF a0 a1 a2 = (r1, r2, r3) := Option.some.inj h
  clear h
  obtain ⟨⟨s1, s2⟩, hs⟩ : ∃ p, subF a0 a2 = p := ⟨_, rfl⟩
  obtain ⟨⟨t1, t2⟩, ht⟩ : ∃ p, addF a1 a2 = p := ⟨_, rfl⟩
  unfold moveF at e1
  rw [hs, ht] at e1
  have HS := Aside0.mk (fun (w' : World) (hb : Below w.heap.size w w') => money_Sub.calls a0 a2 s1 s2 w' (Laid_below hL hb) (by unfold money_Sub.f; rw [hs]))
  have HT := Aside0.mk (fun (w' : World) (hb : Below w.heap.size w w') => money_Add.calls a1 a2 t1 t2 w' (Laid_below hL hb) (by unfold money_Add.f; rw [ht]))
  clear hs ht hL
  by_cases c1 : s2 = 0
  · subst c1
    rw [if_pos rfl] at e1
    by_cases c2 : t2 = 0
    · subst c2
      rw [if_pos rfl] at e1
      simp only [Prod.mk.injEq] at e1
      obtain ⟨rfl, rfl, rfl⟩ := e1
      go_enter Tryd.func68, Tryd.ntmps68
      go_wp2
      go_step3
      go_wp2_with (first
        | (go_at_call 64; refine (HS.out _ (Below.refl _ _)).mono ?_; rintro e w1 ⟨rfl, hb1⟩)
        | (go_at_call 61; refine (HT.out _ hb1).mono ?_; rintro e w2 ⟨rfl, hb2⟩; have hb3 := below_then hb1 hb1.size hb2))
      rw [Exit.noGoto_ret]
      go_ret3
      exact ⟨rfl, hb3⟩
    · rw [if_neg c2] at e1
      simp only [Prod.mk.injEq] at e1
      obtain ⟨rfl, rfl, rfl⟩ := e1
      have c2' : (t2 == 0) = false := beq_eq_false_iff_ne.mpr c2
      clear c2
      go_enter Tryd.func68, Tryd.ntmps68
      go_wp2
      go_step3
      go_wp2_with (first
        | (go_at_call 64; refine (HS.out _ (Below.refl _ _)).mono ?_; rintro e w1 ⟨rfl, hb1⟩)
        | (go_at_call 61; refine (HT.out _ hb1).mono ?_; rintro e w2 ⟨rfl, hb2⟩; have hb3 := below_then hb1 hb1.size hb2))
      go_step3
      go_wp2
      rw [Exit.noGoto_ret]
      go_ret3
      exact ⟨rfl, hb3⟩
  · rw [if_neg c1] at e1
    simp only [Prod.mk.injEq] at e1
    obtain ⟨rfl, rfl, rfl⟩ := e1
    have c1' : (s2 != 0) = true := bne_iff_ne.mpr c1
    clear c1
    go_enter Tryd.func68, Tryd.ntmps68
    go_wp2
    refine wp_scope_jumps 0 (fun a' w' => Below w.heap.size w w' ∧ ∃ (u9 u10 u12 u13 u14 u15 u16 u17 u18 u19 u20 u21 u22 u23 u24 u25 u26 u27 u28 u29 u30 : Value), a' = { tmps := #[.int .i64 a0, .int .i64 a1, .int .i64 a2, undef, undef, undef, .int .i64 0, .int .i64 0, .int .i64 0, u9, u10, .int .i64 s2, u12, u13, u14, u15, u16, u17, u18, u19, u20, u21, u22, u23, u24, u25, u26, u27, u28, u29, u30], defers := [] }) (fun _ _ => 0) rfl ?_ ?_
    · go_wp2_with (go_at_call 64; refine (HS.out _ (Below.refl _ _)).mono ?_; rintro e w1 ⟨rfl, hb1⟩)
      go_step3
      exact ⟨rfl, hb1, _, _, _, _, _, _, _, _, _, _, _, _, _, _, _, _, _, _, _, _, _, rfl⟩
    · rintro a' w' ⟨hb1, u9, u10, u12, u13, u14, u15, u16, u17, u18, u19, u20, u21, u22, u23, u24, u25, u26, u27, u28, u29, u30, rfl⟩
      go_wp2
      simp only [Exit.jump]
      go_ret3
      exact ⟨rfl, hb1⟩
end Go.Proofs.YtgnjodocggihoaaDoor.K
