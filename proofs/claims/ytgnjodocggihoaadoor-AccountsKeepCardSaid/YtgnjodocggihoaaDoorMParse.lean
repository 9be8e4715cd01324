/- The contract of money.Parse. -/
import Derived.Test.YtgnjodocggihoaaDoorMMove
import Derived.Test.YtgnjodocggihoaaDoorMEights
import Derived.Deep.DeepCutAuto
import Derived.Shelf.Abstract
import Derived.Maps.AppendAt
import Derived.RangeFuncCalls
namespace Go.Proofs.YtgnjodocggihoaaDoor.K
open Go.RowKit Go.MapKept Go.Proofs.YtgnjodocggihoaaDoor.Rng Go.Proofs.YtgnjodocggihoaaDoorW.PrintWords Go.Proofs.YtgnjodocggihoaaDoorW.PrintLast Go.Proofs.YtgnjodocggihoaaDoorW.PrintMore
set_option linter.unusedVariables false
set_option linter.unusedSimpArgs false
attribute [local go_sem] Oper.semAt_some

/-- The k-th number of eight bytes. -/
def eightN (s : ByteArray) (k : Nat) : Int := wrap64 (num64 (s.data.toList.drop (8 * k)) 8)
def eightsL (s : ByteArray) : List Int := (List.range (s.size / 8)).map (eightN s)
def parseGood (s : ByteArray) : Bool := decide (s.size % 8 = 0) && (eightsL s).all amt

theorem eights_calls (s : ByteArray) (w : World) :
    Calls Tryd.prog 74 #[.string s] w fun e w' => e = .returned (.func (.func 86) #[] #[.pointer (some ⟨w.heap.size, 0, none⟩)]) ∧ w' = w.alloc (.cells #[.string s] 9) := by
  have hmf : ∀ (fn : Fn) (first cap : Array Value) (w : World), (Instr.makeFunc fn first cap).run Tryd.prog w = .ok (.func fn first cap) w := fun _ _ _ _ => rfl
  go_enter Tryd.func74, Tryd.ntmps74
  go_wp2
  go_ret
  exact ⟨rfl, rfl⟩

theorem own_low {W : World} {base base' n : Nat} {e : TypeId} {size : Nat} {v : Value} {xs : List Value} (h : W.ownsRow base e size v n xs) (hb : base' ≤ base) : W.ownsRow base' e size v n xs := by
  obtain ⟨h1, h2⟩ := h
  refine ⟨h1, ?_⟩
  rcases h2 with h2 | ⟨g, cap, cur, rfl, hg, r⟩
  · exact .inl h2
  · exact .inr ⟨g, cap, cur, rfl, Nat.le_trans hb hg, r⟩
theorem good_true {s : ByteArray} (h0 : ((s.size : Int) % 8 == 0) = true) (h : ((List.range (s.size / 8)).map (eightN s)).all amt = true) : parseGood s = true := by
  unfold parseGood eightsL
  rw [h, decide_eq_true (by have := eq_of_beq h0; omega)]
  rfl
theorem good_false {s : ByteArray} {r0 : Bool} {k : Nat} (h0 : ((s.size : Int) % 8 == 0) = r0) (hk : r0 = false ∨ (k < s.size / 8 ∧ amt (eightN s k) = false)) : parseGood s = false := by
  unfold parseGood eightsL
  rcases hk with rfl | ⟨hk, ha⟩
  · have h1 : ¬ (s.size % 8 = 0) := fun h => by
      have : ((s.size : Int) % 8 == 0) = true := beq_iff_eq.mpr (by omega)
      rw [h0] at this
      exact absurd this (by decide)
    rw [decide_eq_false h1]
    rfl
  · have : ((List.range (s.size / 8)).map (eightN s)).all amt = false := by
      rw [List.all_eq_false]
      exact ⟨eightN s k, List.mem_map.2 ⟨k, List.mem_range.2 hk, rfl⟩, by simp [ha]⟩
    rw [this, Bool.and_false]

set_option maxRecDepth 100000 in
set_option maxHeartbeats 4000000 in
theorem parse_walk (s : ByteArray) (w : World) (hL : Laid w) (hs : s.size ≤ 1000) (r0 : Bool) (hr0 : (((s.size : Int) % 8 == 0) = r0)) (r : Bool) (hr : parseGood s = r) :
    Calls Tryd.prog 58 #[.string s] w fun e w' => ∃ v0_ : Value, e = .returned (.tuple #[v0_, .int .i64 (if r = true then 0 else 110)]) ∧ Kd.R (Kd.int .i64) 2 w' w.heap.size (fun _ => True) v0_ (if r = true then eightsL s else []) ∧ Below w.heap.size w w' := by
  have HL := Aside0.mk hL
  have HR := Aside0.mk hr
  have HN := Aside0.mk eights_calls
  clear hr hL
  refine calls_of_wp_marks Tryd.func58 rfl ?_
  simp only [Tryd.ntmps58, List.size_toArray, List.length_cons, List.length_nil, Nat.reduceAdd, Nat.reduceSub, Array.replicate_succ, Array.replicate_zero, List.push_toArray, List.append_toArray, List.nil_append, List.cons_append]
  go_wp2_with fail
  go_step3
  go_wp2_with fail
  go_step3
  go_wp2_with (go_at_call 74; refine (HN.out _ _).mono ?_; rintro e w2 ⟨rfl, rfl⟩)
  have hX1 := alloc_old (.cells #[.string s] 9) (alloc2_fst w (.cells #[.bool r0] 4) (.cells #[.slice none 0 0] 68))
  have hX2 := alloc_old (.cells #[.string s] 9) (alloc2_new w (.cells #[.bool r0] 4) (.cells #[.slice none 0 0] 68))
  have hXs := (MapKept.heap_alloc ((w.alloc (.cells #[.bool r0] 4)).alloc (.cells #[.slice none 0 0] 68)) (.cells #[.string s] 9)).1
  have hXB := below_alloc (below_two w (.cells #[.bool r0] 4) (.cells #[.slice none 0 0] 68)) (.cells #[.string s] 9)
  have hXsz : (((w.alloc (.cells #[.bool r0] 4)).alloc (.cells #[.slice none 0 0] 68)).alloc (.cells #[.string s] 9)).heap.size = w.heap.size + 3 := by simp
  rw [show ((w.alloc (.cells #[.bool r0] 4)).alloc (.cells #[.slice none 0 0] 68)).heap.size = w.heap.size + 1 + 1 from by simp] at hXs
  generalize ((w.alloc (.cells #[.bool r0] 4)).alloc (.cells #[.slice none 0 0] 68)).alloc (.cells #[.string s] 9) = X at *
  have hseq := eights1 Fence.wide 9 trivial rfl (by omega) (w.heap.size + 1 + 1) s X hs hXs
  have HXE := Aside0.mk hXsz
  obtain ⟨I, hIe⟩ : ∃ I : Nat → World → Prop, I = (fun k W => k ≤ s.size / 8 ∧ ((List.range k).map (eightN s)).all amt = true ∧ (r0 = true ∨ k = 0) ∧ W.heap[w.heap.size]? = some (.cells #[.bool r0] 4 (0, 0)) ∧ (∃ v, W.heap[w.heap.size + 1]? = some (.cells #[v] 68 (0, 0)) ∧ W.ownsRow (X.heap.size + 2) 2 1 v k ((List.range k).map fun j => .int .i64 (eightN s j))) ∧ Below w.heap.size w W) := ⟨_, rfl⟩
  obtain ⟨Ix, hXe⟩ : ∃ Ix : Code → Nat → World → Prop, Ix = (fun c k W => c = .exit 0 ∧ (r0 = false ∨ amt (eightN s k) = false) ∧ W.heap[w.heap.size]? = some (.cells #[.bool false] 4 (0, 0)) ∧ Below w.heap.size w W) := ⟨_, rfl⟩
  refine wp_rangeFunc_L (w := X) (gf := 86) rfl (enters_of Tryd.func86 (by kernel_rfl) rfl) hseq (Below.refl _ _) (fun _ => rfl) (fun b hb => by have e : b = w.heap.size + 1 + 1 := hb; show b ≠ X.heap.size ∧ b ≠ X.heap.size + 1; omega) (fun b hb => by have e : b = w.heap.size + 1 + 1 := hb; show b ≠ X.heap.size + 1; omega)
    I Ix
    ?hI ?hIx ?h0 ?hround ?hdone ?hstop
  case hI =>
    subst hIe
    rintro k A B ⟨hk, hal, hz, hb1, ⟨v, hb, ho⟩, hbel⟩ hst
    exact ⟨hk, hal, hz, hst.at_ hb1 (by show ¬ (w.heap.size = w.heap.size + 1 + 1 ∨ w.heap.size = X.heap.size + 1); omega), ⟨v, hst.at_ hb (by show ¬ (w.heap.size + 1 = w.heap.size + 1 + 1 ∨ w.heap.size + 1 = X.heap.size + 1); omega), own_step ho hst (fun j hj => by show ¬ (j = w.heap.size + 1 + 1 ∨ j = X.heap.size + 1); omega)⟩, hbel.trans (hst.below (by have := hbel.size; omega) (fun j hj => by show ¬ (j = w.heap.size + 1 + 1 ∨ j = X.heap.size + 1); omega))⟩
  case hIx =>
    subst hXe
    rintro c k A B ⟨hk, hz, hb1, hbel⟩ hst
    exact ⟨hk, hz, hst.at_ hb1 (by show ¬ (w.heap.size = w.heap.size + 1 + 1 ∨ w.heap.size = X.heap.size + 1); omega), hbel.trans (hst.below (by have := hbel.size; omega) (fun j hj => by show ¬ (j = w.heap.size + 1 + 1 ∨ j = X.heap.size + 1); omega))⟩
  case h0 =>
    subst hIe
    exact ⟨by omega, by simp, .inr rfl, alloc_old _ (alloc_old _ hX1), ⟨_, alloc_old _ (alloc_old _ hX2), World.ownsRow_nil _ _ _ _⟩, below_alloc (below_alloc hXB _) _⟩
  case hdone =>
    subst hIe hXe
    rintro W ⟨_, hal, hz, hb1, ⟨v, hb2, ho⟩, hbel⟩ hsz hD
    have c1 : W.cell? ⟨w.heap.size, 0, none⟩ = some (.bool r0) := (blk_cell hb1 0).trans rfl
    have c2 : W.cell? ⟨w.heap.size + 1, 0, none⟩ = some v := (blk_cell hb2 0).trans rfl
    clear hb1 hb2 hseq hX1 hX2 hXs
    cases r0 with
    | true =>
      obtain rfl : r = true := HR.out.symm.trans (good_true hr0 hal)
      go_wp2
      try rw [Exit.noGoto_ret]
      have ho2 := own_low (own_step ho (StepZ.putObj (Z := fun b => b = w.heap.size + 3) W (.deferred none) rfl) (fun k hk => by omega)) (base' := w.heap.size) (by omega)
      rw [HXE.out] at hD
      refine leave_marked hD (v := .tuple #[v, .int .i64 0]) (by simp [results, Tryd.results58, go_sem]) ⟨v, rfl, ?_, ?_⟩
      · refine Kd.R_of_own (enc := fun n : Int => Value.int .i64 n) (xs := eightsL s) ?_ (fun _ _ => trivial)
        have hl : (eightsL s).length = s.size / 8 := by simp [eightsL]
        rw [hl]
        have he : encs (fun n : Int => Value.int .i64 n) (eightsL s) = (List.range (s.size / 8)).map fun j => Value.int .i64 (eightN s j) := by simp [encs, eightsL]
        rw [he]
        exact ho2
      · exact hbel.trans ((StepZ.putObj (Z := fun b => b = w.heap.size + 3) _ (.deferred none) rfl).below (by have := hbel.size; omega) (fun k hk => by omega))
    | false =>
    obtain rfl : r = false := HR.out.symm.trans (good_false hr0 (k := 0) (.inl rfl))
    obtain ⟨ax, hax⟩ := laid_amount (Laid_below HL.out hbel)
    have HAX := Aside0.mk (told_calls ax W 110 (Laid_below HL.out hbel) (.inl ⟨rfl, hax⟩))
    go_wp2_with (go_at_call 71; refine HAX.out.mono ?_; rintro e w9 ⟨rfl, rfl⟩)
    try rw [Exit.noGoto_ret]
    rw [HXE.out] at hD
    refine leave_marked hD (v := .tuple #[.slice none 0 0, .int .i64 110]) (by simp [results, Tryd.results58, go_sem]) ⟨.slice none 0 0, rfl, Kd.R_nil _ _ _ _ _, ?_⟩
    exact hbel.trans ((StepZ.putObj (Z := fun b => b = w.heap.size + 3) _ (.deferred none) rfl).below (by have := hbel.size; omega) (fun k hk => by omega))
  case hstop =>
    subst hIe hXe
    rintro c k W hk ⟨rfl, hz, hb1, hbel⟩ hsz hD
    have c1 : W.cell? ⟨w.heap.size, 0, none⟩ = some (.bool false) := (blk_cell hb1 0).trans rfl
    clear hb1 hseq hX1 hX2 hXs
    obtain rfl : r = false := HR.out.symm.trans (good_false hr0 (k := k) (hz.imp id (fun h => ⟨hk, h⟩)))
    obtain ⟨ax, hax⟩ := laid_amount (Laid_below HL.out hbel)
    have HAX := Aside0.mk (told_calls ax W 110 (Laid_below HL.out hbel) (.inl ⟨rfl, hax⟩))
    go_wp2_with (go_at_call 71; refine HAX.out.mono ?_; rintro e w9 ⟨rfl, rfl⟩)
    try rw [Exit.noGoto_ret]
    rw [HXE.out] at hD
    refine leave_marked hD (v := .tuple #[.slice none 0 0, .int .i64 110]) (by simp [results, Tryd.results58, go_sem]) ⟨.slice none 0 0, rfl, Kd.R_nil _ _ _ _ _, ?_⟩
    exact hbel.trans ((StepZ.putObj (Z := fun b => b = w.heap.size + 3) _ (.deferred none) rfl).below (by have := hbel.size; omega) (fun k hk => by omega))
  case hround =>
    intro k W hk hi hsz
    clear hseq hX1 hX2 hXs
    rw [hIe] at hi
    have HIE := Aside0.mk hIe
    have HXX := Aside0.mk hXe
    clear hIe hXe
    gi_wp2
    refine ⟨StepZ.refl _ _, ?_⟩
    intro Wb hst
    obtain ⟨hk2, hal, hz, hb1, ⟨v, hbx, hrow⟩, hbel⟩ := hi
    replace hb1 := hst.at_ hb1 (by show w.heap.size ≠ X.heap.size + 1; omega)
    replace hbx := hst.at_ hbx (by show w.heap.size + 1 ≠ X.heap.size + 1; omega)
    replace hrow := own_step hrow hst (fun k hk => by show k ≠ X.heap.size + 1; omega)
    replace hbel := hbel.trans (hst.below (by have := hbel.size; omega) (fun k hk => by show k ≠ X.heap.size + 1; omega))
    have hszb : X.heap.size + 2 ≤ Wb.heap.size := Nat.le_trans hsz hst.size
    have cb : Wb.cell? ⟨w.heap.size, 0, none⟩ = some (.bool r0) := (blk_cell hb1 0).trans rfl
    have fb : Wb.frozen? ⟨w.heap.size, 0, none⟩ = false := blk_frozen hb1 0
    have HB1 := Aside0.mk hb1
    have HBX := Aside0.mk hbx
    have HROW := Aside0.mk hrow
    have HBEL := Aside0.mk hbel
    have HAL := Aside0.mk hal
    have HBASE := Aside0.mk (own_base hrow)
    have HSZ := Aside0.mk hszb
    obtain ⟨i0, hi, hz0, hz1, hz2⟩ := info_parts info2
    clear hsz hst hb1 hbx hrow hbel hal hXsz hszb
    have ev : wrap64 (num64 (s.data.toList.drop (8 * k)) 8) = eightN s k := rfl
    have hF19 : Fence.wide.fn 75 := trivial
    have hu31 := Tryd.underlying68
    have keepZ : ∀ {A B : World}, StepZ (fun b => X.heap.size + 2 ≤ b ∨ b = w.heap.size ∨ b = w.heap.size + 1) A B → StepZ (fun b => ¬ (b = w.heap.size + 1 + 1 ∨ b = X.heap.size ∨ b = X.heap.size + 1)) A B := fun h => h.mono (fun b _ hb => by have := HXE.out; omega)
    have KZ := Aside0.mk @keepZ
    clear keepZ
    cases r0 with
    | false =>
      gi_wp2
      have ST : StepZ (fun b => X.heap.size + 2 ≤ b ∨ b = w.heap.size ∨ b = w.heap.size + 1) Wb (Wb.setCell ⟨w.heap.size, 0, none⟩ (.bool false)) := StepZ.setCell _ _ (.inr (.inl rfl))
      refine ⟨?_, ?_⟩
      · simpa using KZ.out ST
      · rw [HXX.out]
        exact ⟨rfl, by simp, by simpa using blk_set HB1.out 0 (.bool false), below_set HBEL.out (Nat.le_refl _)⟩
    | true =>
      have d1 : 1 ≤ 8 := by decide
      have hlt1 := (Array.getElem?_eq_some_iff.1 HB1.out).1
      have hlt2 := (Array.getElem?_eq_some_iff.1 HBX.out).1
      have HLT1 := Aside0.mk hlt1
      have HLT2 := Aside0.mk hlt2
      clear hlt1 hlt2
      cases ha : amt (eightN s k) with
      | false =>
        have HRI := Aside0.mk (fun (w' : World) (hb : Below w.heap.size w w') => money_Right.calls (eightN s k) false w' (Laid_below HL.out hb) (by rw [right_amt, ha]))
        gi_wp2_with (gi_at_call 75; refine (CallsIn.inRound _ (callsIn_wide.2 (HRI.out _ HBEL.out))).mono ?_; rintro e w3 ⟨rfl, hb3⟩; have hb1' := (hb3.block _ HLT1.out).trans HB1.out; have c3 := (blk_cell hb1' 0).trans rfl; have f3 := blk_frozen hb1' 0; have HB3 := Aside0.mk hb1'; have HC3 := Aside0.mk hb3; clear hb1' hb3)
        have ST : StepZ (fun b => X.heap.size + 2 ≤ b ∨ b = w.heap.size ∨ b = w.heap.size + 1) Wb (w3.setCell ⟨w.heap.size, 0, none⟩ (.bool false)) := (StepZ.of_below HC3.out).trans (StepZ.setCell _ _ (.inr (.inl rfl)))
        refine ⟨?_, ?_⟩
        · simpa using KZ.out ST
        · rw [HXX.out]
          exact ⟨rfl, by simp [ha], by simpa using blk_set HB3.out 0 (.bool false), below_set (below_then HBEL.out HBEL.out.size HC3.out) (Nat.le_refl _)⟩
      | true =>
        have HRI := Aside0.mk (fun (w' : World) (hb : Below w.heap.size w w') => money_Right.calls (eightN s k) true w' (Laid_below HL.out hb) (by rw [right_amt, ha]))
        gi_wp2_with (first
          | (gi_at_call 75; refine (CallsIn.inRound _ (callsIn_wide.2 (HRI.out _ HBEL.out))).mono ?_; rintro e w3 ⟨rfl, hb3⟩; have hb1' := (hb3.block _ HLT1.out).trans HB1.out; have c3 := (blk_cell hb1' 0).trans rfl; have f3 := blk_frozen hb1' 0; have hbx' := (Below.heap_setCell w3 ⟨w.heap.size, 0, none⟩ (.bool true) (w.heap.size + 1) (by show w.heap.size + 1 ≠ w.heap.size; omega)).trans ((hb3.block _ HLT2.out).trans HBX.out); have c6 := (blk_cell hbx' 0).trans rfl; have hrow' := ownsRow_setCell_below (own_step HROW.out (StepZ.of_below (Z := fun _ => False) hb3) (fun _ _ h => h)) (a := ⟨w.heap.size, 0, none⟩) (by show w.heap.size < X.heap.size + 2; have := HXE.out; omega) (.bool true); have hn1 := cell_one_new (w3.setCell ⟨w.heap.size, 0, none⟩ (.bool true)) (.int .i64 (eightN s k)) 2; rw [show (w3.setCell ⟨w.heap.size, 0, none⟩ (.bool true)).heap.size = w3.heap.size from by simp] at hn1; have HB3 := Aside0.mk (by simpa using blk_set hb1' 0 (.bool true) : (w3.setCell ⟨w.heap.size, 0, none⟩ (.bool true)).heap[w.heap.size]? = some (.cells #[.bool true] 4 (0, 0))); have HBX3 := Aside0.mk hbx'; have hsz3 := Nat.le_trans HSZ.out hb3.size; have HC3 := Aside0.mk hb3; have HROW3 := Aside0.mk hrow'; have HN1 := Aside0.mk hn1; have cc := (blk_cell HB3.out 0).trans rfl; clear hb1' hb3 hbx' hrow' hn1)
          | (gi_at_builtin; refine wpListIn_append_own _ rfl _ _ 68 rfl (X.heap.size + 2) 2 i0 (.int .i64 0) 1 8 Tryd.underlying68 hi hz0 hz1 hz2 rfl (by decide) _ _ _ rfl (HROW3.out.alloc _) ⟨w3.heap.size, 0, none⟩ 1 1 [.int .i64 (eightN s k)] rfl rfl HN1.out (by simp [Value.oneCell']) (by unfold maxLen; omega) (by omega) (by simp; omega) ?_; intro v' w4 hown' hgrow _; obtain ⟨g', cap', rfl⟩ := ownsRow_succ hown'; have hst2 := StepZ.of_grown (Z := fun b => X.heap.size + 2 ≤ b) hgrow (fun j hj => HBASE.out j hj); have hbx2 := hst2.at_ (alloc_old (.cells #[.int .i64 (eightN s k)] 2) HBX3.out) (by show ¬ X.heap.size + 2 ≤ w.heap.size + 1; have := HXE.out; omega); have hb12 := hst2.at_ (alloc_old (.cells #[.int .i64 (eightN s k)] 2) HB3.out) (by show ¬ X.heap.size + 2 ≤ w.heap.size; have := HXE.out; omega); have hf6 := blk_frozen hbx2 0; have hc7 := (blk_cell hbx2 0).trans rfl; have HB2 := Aside0.mk hbx2; have HB12 := Aside0.mk hb12; have HST := Aside0.mk hst2; have HOWN := Aside0.mk hown'; clear hst2 hbx2 hb12 hgrow hown'))
        have ST : StepZ (fun b => X.heap.size + 2 ≤ b ∨ b = w.heap.size ∨ b = w.heap.size + 1) Wb (w4.setCell ⟨w.heap.size + 1, 0, none⟩ (.slice (some ⟨g', 0, none⟩) (k + 1) cap')) :=
          ((((StepZ.of_below HC3.out).trans (StepZ.setCell _ _ (.inr (.inl rfl)))).trans (StepZ.alloc _ _ _)).trans (HST.out.mono (fun b _ hb => .inl hb))).trans (StepZ.setCell _ _ (.inr (.inr rfl)))
        have hbel3 : Below w.heap.size w (w4.setCell ⟨w.heap.size + 1, 0, none⟩ (.slice (some ⟨g', 0, none⟩) (k + 1) cap')) := HBEL.out.trans (ST.below (by have := HBEL.out.size; omega) (fun k hk => by have := HXE.out; omega))
        have hbx3 : (w4.setCell ⟨w.heap.size + 1, 0, none⟩ (.slice (some ⟨g', 0, none⟩) (k + 1) cap')).heap[w.heap.size + 1]? = some (.cells #[.slice (some ⟨g', 0, none⟩) (k + 1) cap'] 68 (0, 0)) := by simpa using blk_set HB2.out 0 (.slice (some ⟨g', 0, none⟩) (k + 1) cap')
        have hb13 : (w4.setCell ⟨w.heap.size + 1, 0, none⟩ (.slice (some ⟨g', 0, none⟩) (k + 1) cap')).heap[w.heap.size]? = some (.cells #[.bool true] 4 (0, 0)) := (Below.heap_setCell _ _ _ _ (by show w.heap.size ≠ w.heap.size + 1; omega)).trans HB12.out
        have hown3 := ownsRow_setCell_below HOWN.out (a := ⟨w.heap.size + 1, 0, none⟩) (by show w.heap.size + 1 < X.heap.size + 2; have := HXE.out; omega) (.slice (some ⟨g', 0, none⟩) (k + 1) cap')
        have hl : ((List.range k).map fun j => Value.int .i64 (eightN s j)) ++ [.int .i64 (eightN s k)] = (List.range (k + 1)).map fun j => Value.int .i64 (eightN s j) := by simp [List.range_succ]
        rw [hl] at hown3
        refine ⟨?_, ?_⟩
        · simpa using KZ.out ST
        · rw [HIE.out]
          refine ⟨by omega, ?_, by simp, hb13, ⟨_, hbx3, hown3⟩, hbel3⟩
          rw [List.range_succ, List.map_append, List.all_append, HAL.out]
          simp [ha]

theorem parse_size (s : ByteArray) : (eightsL s).length = s.size / 8 := by simp [eightsL]
def money_Parse.f (s : ByteArray) : Option (List Int × Int) := if 1000 < s.size then none else if parseGood s = true then some (eightsL s, 0) else some ([], 110)
theorem money_Parse.calls (a0 : ByteArray) (r1 : List Int) (r2 : Int) (w : World) (hL : Laid w) (h : money_Parse.f a0 = some (r1, r2)) :
    Calls Tryd.prog 58 #[.string a0] w fun e w' => ∃ v0_ : Value, e = .returned (.tuple #[v0_, .int .i64 r2]) ∧ Kd.R (Kd.int .i64) 2 w' w.heap.size (fun _ => True) v0_ r1 ∧ Below w.heap.size w w' := by
  unfold money_Parse.f at h
  by_cases hs : 1000 < a0.size
  · rw [if_pos hs] at h; cases h
  rw [if_neg hs] at h
  have := parse_walk a0 w hL (by omega) _ rfl _ rfl
  by_cases hg : parseGood a0 = true
  · rw [if_pos hg, Option.some.injEq, Prod.mk.injEq] at h
    obtain ⟨rfl, rfl⟩ := h
    rw [if_pos hg, if_pos hg] at this
    exact this
  · rw [if_neg hg, Option.some.injEq, Prod.mk.injEq] at h
    obtain ⟨rfl, rfl⟩ := h
    rw [if_neg hg, if_neg hg] at this
    exact this
end Go.Proofs.YtgnjodocggihoaaDoor.K
