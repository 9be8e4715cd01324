/- The contract of accounts.are. -/
import Derived.Test.YtgnjodocggihoaaDoorAOps
import Derived.Test.YtgnjodocggihoaaDoorAPurses
import Derived.Deep.DeepCutAuto
import Derived.Shelf.Abstract
import Derived.RangeFuncCalls
namespace Go.Proofs.YtgnjodocggihoaaDoor.K
open Go.RowKit Go.MapKept Go.Proofs.YtgnjodocggihoaaDoor.Rng Go.Proofs.YtgnjodocggihoaaDoorW.PrintWords Go.Proofs.YtgnjodocggihoaaDoorW.PrintLast Go.Proofs.YtgnjodocggihoaaDoorW.PrintMore
set_option linter.unusedVariables false
set_option linter.unusedSimpArgs false
attribute [local go_sem] Oper.semAt_some

def okS (x : S23) : Bool := (addF x.f0 x.f1).2 == 0
theorem okS_calls (x : S23) (W : World) (hL : Laid W) :
    Calls Tryd.prog 55 #[.agg #[.int .i64 x.f0, .int .i64 x.f1]] W fun e w' => e = .returned (.bool (okS x)) ∧ Below W.heap.size W w' :=
  accounts_purse_isRight.calls x.f0 x.f1 _ W hL (by simp [accounts_purse_isRight.f, money_Add.f, okS])

theorem purses_calls (A : Option Addr) (n c : Nat) (w : World) :
    Calls Tryd.prog 69 #[.slice A n c] w fun e w' => e = .returned (.func (.func 84) #[] #[.pointer (some ⟨w.heap.size, 0, none⟩)]) ∧ w' = w.alloc (.cells #[.slice A n c] 77) := by
  have hmf : ∀ (fn : Fn) (first cap : Array Value) (w : World), (Instr.makeFunc fn first cap).run Tryd.prog w = .ok (.func fn first cap) w := fun _ _ _ _ => rfl
  go_enter Tryd.func69, Tryd.ntmps69
  go_wp2
  go_ret
  exact ⟨rfl, rfl⟩

set_option maxRecDepth 100000 in
set_option maxHeartbeats 4000000 in
theorem are_walk (A : Option Addr) (c : Nat) (xs : List S23) (w : World) (hL : Laid w) (hC : Kd.C k23 w A xs.length xs) (hc : xs.length ≤ c) (hlen : xs.length ≤ 100) (r : Bool) (hr : xs.all okS = r) :
    Calls Tryd.prog 54 #[.slice A xs.length c] w fun e w' => e = .returned (.bool r) ∧ Below w.heap.size w w' := by
  have HL := Aside0.mk hL
  have HR := Aside0.mk hr
  have HN := Aside0.mk purses_calls
  have HCC := Aside0.mk hC
  have hA : ∀ b, Holds A b → 0 < xs.length → b < w.heap.size := by
    rintro b ⟨a, rfl, rfl⟩ h0
    obtain ⟨ad, ha, r0, _⟩ := at_T23 hC 0 (by omega) (by omega)
    cases ha
    have := cell_lt r0
    have hpb : (a.add ((0 : Int).toNat * 2)).block = a.block := by unfold Addr.add; split <;> rfl
    rw [hpb] at this
    exact this
  have HAA := Aside0.mk hA
  clear hr hL hA hC
  refine calls_of_wp_marks Tryd.func54 rfl ?_
  simp only [Tryd.ntmps54, List.size_toArray, List.length_cons, List.length_nil, Nat.reduceAdd, Nat.reduceSub, Array.replicate_succ, Array.replicate_zero, List.push_toArray, List.append_toArray, List.nil_append, List.cons_append]
  go_wp2_with fail
  go_step3
  go_wp2_with fail
  go_step3
  go_wp2_with (go_at_call 69; refine (HN.out _ _ _ _).mono ?_; rintro e w2 ⟨rfl, rfl⟩)
  have hX1 := alloc_old (.cells #[.slice A xs.length c] 77) (MapKept.heap_alloc w (.cells #[.bool true] 4)).1
  have hXs := alloc2_new w (.cells #[.bool true] 4) (.cells #[.slice A xs.length c] 77)
  have hXB := below_two w (.cells #[.bool true] 4) (.cells #[.slice A xs.length c] 77)
  have hXsz : ((w.alloc (.cells #[.bool true] 4)).alloc (.cells #[.slice A xs.length c] 77)).heap.size = w.heap.size + 2 := by simp
  generalize (w.alloc (.cells #[.bool true] 4)).alloc (.cells #[.slice A xs.length c] 77) = X at *
  have hseq := purses1 Fence.wide 9 trivial rfl (by omega) (w.heap.size + 1) A c xs X hlen hc hXs (Kd.C_below HCC.out hXB)
  have HXE := Aside0.mk hXsz
  obtain ⟨I, hIe⟩ : ∃ I : Nat → World → Prop, I = fun k W => k ≤ xs.length ∧ (xs.take k).all okS = true ∧ W.heap[w.heap.size]? = some (.cells #[.bool true] 4 (0, 0)) ∧ Below w.heap.size w W := ⟨_, rfl⟩
  obtain ⟨Ix, hXe⟩ : ∃ Ix : Code → Nat → World → Prop, Ix = fun c k W => c = .exit 0 ∧ okS (xs.getD k z23) = false ∧ W.heap[w.heap.size]? = some (.cells #[.bool false] 4 (0, 0)) ∧ Below w.heap.size w W := ⟨_, rfl⟩
  refine wp_rangeFunc_L (w := X) (gf := 84) rfl (enters_of Tryd.func84 (by kernel_rfl) rfl) hseq (Below.refl _ _) (fun _ => rfl) (fun b hb => absurd hb id) (fun b hb => by
      rcases hb with e | ⟨e, h0⟩
      · omega
      · have := HAA.out b e h0; omega) I Ix ?hI ?hIx ?h0 ?hround ?hdone ?hstop
  case hI =>
    subst hIe
    rintro k A' B ⟨hk, hal, hb1, hbel⟩ hst
    exact ⟨hk, hal, hst.at_ hb1 (by have := HXE.out; rintro (h | h) <;> omega), hbel.trans (hst.below (by have := hbel.size; omega) (fun j hj => by have := HXE.out; rintro (h | h) <;> omega))⟩
  case hIx =>
    subst hXe
    rintro c k A' B ⟨hk, hz, hb1, hbel⟩ hst
    exact ⟨hk, hz, hst.at_ hb1 (by have := HXE.out; rintro (h | h) <;> omega), hbel.trans (hst.below (by have := hbel.size; omega) (fun j hj => by have := HXE.out; rintro (h | h) <;> omega))⟩
  case h0 =>
    subst hIe
    exact ⟨by omega, by simp, alloc_old _ (alloc_old _ hX1), below_alloc (below_alloc hXB _) _⟩
  case hdone =>
    subst hIe hXe
    rintro W ⟨_, hal, hb1, hbel⟩ hsz hD
    have c1 : W.cell? ⟨w.heap.size, 0, none⟩ = some (.bool true) := (blk_cell hb1 0).trans rfl
    rw [List.take_length] at hal
    obtain rfl : r = true := HR.out.symm.trans hal
    clear hb1 hseq hX1 hXs
    go_wp2
    try rw [Exit.noGoto_ret]
    refine leave_marked hD (v := .bool true) (by simp [results, Tryd.results54, go_sem]) ⟨rfl, ?_⟩
    exact hbel.trans ((StepZ.putObj (Z := fun b => b = X.heap.size) _ (.deferred none) rfl).below (by have := hbel.size; omega) (fun k hk => by have := HXE.out; omega))
  case hstop =>
    subst hIe hXe
    rintro c k W hk ⟨rfl, hz, hb1, hbel⟩ hsz hD
    have c1 : W.cell? ⟨w.heap.size, 0, none⟩ = some (.bool false) := (blk_cell hb1 0).trans rfl
    obtain rfl : r = false := HR.out.symm.trans (by
      rw [List.all_eq_false]
      refine ⟨xs[k], List.getElem_mem hk, ?_⟩
      rw [List.getD_eq_getElem?_getD, List.getElem?_eq_getElem hk] at hz
      simpa using hz)
    clear hb1 hseq hX1 hXs
    go_wp2
    try rw [Exit.noGoto_ret]
    refine leave_marked hD (v := .bool false) (by simp [results, Tryd.results54, go_sem]) ⟨rfl, ?_⟩
    exact hbel.trans ((StepZ.putObj (Z := fun b => b = X.heap.size) _ (.deferred none) rfl).below (by have := hbel.size; omega) (fun k hk => by have := HXE.out; omega))
  case hround =>
    intro k W hk hi hsz
    clear hseq hX1 hXs
    rw [hIe] at hi
    have HIE := Aside0.mk hIe
    have HXX := Aside0.mk hXe
    clear hIe hXe
    have hx0 : xs[k] = xs.getD k z23 := by rw [List.getD_eq_getElem?_getD, List.getElem?_eq_getElem hk]; rfl
    have HX0 := Aside0.mk hx0
    clear hx0
    obtain ⟨z, hzz⟩ : ∃ z, xs.getD k z23 = z := ⟨_, rfl⟩
    rw [hzz] at HX0
    rw [show (#[.agg #[.int .i64 (xs.getD k z23).f0, .int .i64 (xs.getD k z23).f1]] : Array Value) = #[.agg #[.int .i64 z.f0, .int .i64 z.f1]] from by rw [hzz]]
    have HZZ := Aside0.mk hzz
    clear hzz
    have hu58 := Tryd.underlying58
    have hu23 := Tryd.underlying23
    gi_wp2
    refine ⟨StepZ.alloc _ _ _, ?_⟩
    intro Wb hst
    obtain ⟨hk2, hal, hb1, hbel⟩ := hi
    have hp := hst.at_ (MapKept.heap_alloc W (.cells #[.int .i64 z.f0, .int .i64 z.f1] 58)).1 (by show W.heap.size ≠ X.heap.size + 1; omega)
    replace hb1 := hst.at_ (alloc_old (.cells #[.int .i64 z.f0, .int .i64 z.f1] 58) hb1) (by show w.heap.size ≠ X.heap.size + 1; have := HXE.out; omega)
    replace hbel : Below w.heap.size w Wb := (below_alloc hbel (.cells #[.int .i64 z.f0, .int .i64 z.f1] 58)).trans (hst.below (by have := hbel.size; simp; omega) (fun j hj => by show j ≠ X.heap.size + 1; have := HXE.out; omega))
    have p0 := (blk_cell hp 0).trans rfl
    have p1 := (blk_cell hp 1).trans rfl
    have hlt1 := (Array.getElem?_eq_some_iff.1 hb1).1
    have HB1 := Aside0.mk hb1
    have HBEL := Aside0.mk hbel
    have HAL := Aside0.mk hal
    have HLT1 := Aside0.mk hlt1
    have HO := Aside0.mk (okS_calls z Wb (Laid_below HL.out hbel))
    clear hst hb1 hbel hal hlt1 hp hXsz
    have hF55 : Fence.wide.fn 55 := trivial
    have d1 : 1 ≤ 8 := by decide
    have keepZ : ∀ {A' B : World}, StepZ (fun b => b = w.heap.size) A' B → StepZ (fun b => ¬ ((b = w.heap.size + 1 ∨ (Holds A b ∧ 0 < xs.length)) ∨ b = X.heap.size ∨ b = X.heap.size + 1)) A' B := fun h => h.mono (fun b _ hb => by
      subst hb
      rintro ((e | ⟨e, e0⟩) | e | e)
      · omega
      · have := HAA.out _ e e0; omega
      · have := HXE.out; omega
      · have := HXE.out; omega)
    have KZ := Aside0.mk @keepZ
    clear keepZ
    cases ho : okS z with
    | true =>
      rw [ho] at HO
      gi_wp2_with (gi_at_call 55; refine (CallsIn.inRound _ (callsIn_wide.2 HO.out)).mono ?_; rintro e w3 ⟨rfl, hb3⟩; have hb1' := (hb3.block _ HLT1.out).trans HB1.out; have d3 := (blk_cell hb1' 0).trans rfl; have f3 := blk_frozen hb1' 0; have HB3 := Aside0.mk hb1'; have HC3 := Aside0.mk hb3; have cc := (blk_cell (by simpa using blk_set hb1' 0 (.bool true) : (w3.setCell ⟨w.heap.size, 0, none⟩ (.bool true)).heap[w.heap.size]? = some (.cells #[.bool true] 4 (0, 0))) 0).trans rfl; clear hb1' hb3)
      have ST : StepZ (fun b => b = w.heap.size) Wb (w3.setCell ⟨w.heap.size, 0, none⟩ (.bool true)) := (StepZ.of_below HC3.out).trans (StepZ.setCell (Z := fun b => b = w.heap.size) _ _ rfl)
      have hbl := below_set (below_then HBEL.out HBEL.out.size HC3.out) (Nat.le_refl w.heap.size) (j := 0) (v := .bool true)
      refine ⟨KZ.out ST, ?_⟩
      rw [HIE.out]
      refine ⟨by omega, ?_, by simpa using blk_set HB3.out 0 (.bool true), hbl⟩
      rw [List.take_succ_eq_append_getElem hk, List.all_append, HAL.out, HX0.out]
      simp [ho]
    | false =>
      rw [ho] at HO
      gi_wp2_with (gi_at_call 55; refine (CallsIn.inRound _ (callsIn_wide.2 HO.out)).mono ?_; rintro e w3 ⟨rfl, hb3⟩; have hb1' := (hb3.block _ HLT1.out).trans HB1.out; have d3 := (blk_cell hb1' 0).trans rfl; have f3 := blk_frozen hb1' 0; have HB3 := Aside0.mk hb1'; have HC3 := Aside0.mk hb3; have cc := (blk_cell (by simpa using blk_set hb1' 0 (.bool false) : (w3.setCell ⟨w.heap.size, 0, none⟩ (.bool false)).heap[w.heap.size]? = some (.cells #[.bool false] 4 (0, 0))) 0).trans rfl; clear hb1' hb3)
      have ST : StepZ (fun b => b = w.heap.size) Wb (w3.setCell ⟨w.heap.size, 0, none⟩ (.bool false)) := (StepZ.of_below HC3.out).trans (StepZ.setCell (Z := fun b => b = w.heap.size) _ _ rfl)
      have hbl := below_set (below_then HBEL.out HBEL.out.size HC3.out) (Nat.le_refl w.heap.size) (j := 0) (v := .bool false)
      refine ⟨KZ.out ST, ?_⟩
      rw [HXX.out]
      exact ⟨rfl, by rw [HZZ.out]; exact ho, by simpa using blk_set HB3.out 0 (.bool false), hbl⟩

def accounts_are.f (l0 : List (S23)) : Option (Bool) := if 100 < l0.length then none else some (l0.all okS)
theorem accounts_are.calls (A0 : Option Addr) (c0 : Nat) (l0 : List (S23)) (r : Bool) (w : World) (hL : Laid w) (hr0 : Kd.C k23 w A0 l0.length l0) (hc0 : l0.length ≤ c0) (h : accounts_are.f l0 = some r) :
    Calls Tryd.prog 54 #[.slice A0 l0.length c0] w fun e w' => e = .returned (.bool r) ∧ Below w.heap.size w w' := by
  unfold accounts_are.f at h
  by_cases hs : 100 < l0.length
  · rw [if_pos hs] at h; cases h
  · rw [if_neg hs] at h
    exact are_walk A0 c0 l0 w hL hr0 hc0 (by omega) r (Option.some.inj h)
end Go.Proofs.YtgnjodocggihoaaDoor.K
