/- A range over a function whose iterator also writes cells of its own: what the iterator may write (Z) and what it relies on (R) are named block by block; what the loop's body and its caller owe is said over that. -/
import Derived.RangeFuncNested
import Derived.RangeFuncBound
import Derived.RangeFuncCalls
import Derived.RangeFuncLeaves
import Derived.RangeFuncBox
import Derived.Deep.Draws
namespace Go.Proofs.Ytfncbcbhhddnpaa.Rng
open Go Go.RowKit

/-- B is A, but for new blocks and what lies in the blocks of Z. -/
structure StepZ (Z : Nat → Prop) (A B : World) : Prop where
  os : B.os = A.os
  tape : B.tape = A.tape
  output : B.output = A.output
  size : A.heap.size ≤ B.heap.size
  block : ∀ k, k < A.heap.size → ¬ Z k → B.heap[k]? = A.heap[k]?

theorem StepZ.refl (Z : Nat → Prop) (A : World) : StepZ Z A A := ⟨rfl, rfl, rfl, Nat.le_refl _, fun _ _ _ => rfl⟩
theorem StepZ.trans {Z : Nat → Prop} {A B C : World} (h : StepZ Z A B) (k : StepZ Z B C) : StepZ Z A C :=
  ⟨k.os.trans h.os, k.tape.trans h.tape, k.output.trans h.output, Nat.le_trans h.size k.size, fun i hi hz => (k.block i (Nat.lt_of_lt_of_le hi h.size) hz).trans (h.block i hi hz)⟩
theorem StepZ.mono {Z Z' : Nat → Prop} {A B : World} (h : StepZ Z A B) (hz : ∀ k, k < A.heap.size → Z k → Z' k) : StepZ Z' A B :=
  ⟨h.os, h.tape, h.output, h.size, fun k hk hn => h.block k hk (fun hq => hn (hz k hk hq))⟩
theorem StepZ.alloc (Z : Nat → Prop) (A : World) (o : Obj) : StepZ Z A (A.alloc o) := ⟨rfl, rfl, rfl, by simp, fun k hk _ => Below.heap_alloc A o k hk⟩
theorem StepZ.drew (Z : Nat → Prop) (A : World) : StepZ Z A A.drew := ⟨rfl, rfl, rfl, Nat.le_refl _, fun _ _ _ => rfl⟩
theorem StepZ.drewN (Z : Nat → Prop) (A : World) (n : Nat) : StepZ Z A (A.drewN n) := ⟨rfl, rfl, rfl, Nat.le_refl _, fun _ _ _ => rfl⟩
theorem StepZ.setCell {Z : Nat → Prop} (A : World) {a : Addr} (v : Value) (h : Z a.block) : StepZ Z A (A.setCell a v) :=
  ⟨rfl, rfl, rfl, by simp [World.setCell], fun k _ hz => Below.heap_setCell A a v k (fun e => hz (e ▸ h))⟩
theorem StepZ.putObj {Z : Nat → Prop} (A : World) {r : Nat} (o : Obj) (h : Z r) : StepZ Z A (A.putObj r o) :=
  ⟨rfl, rfl, rfl, by simp, fun k _ hz => World.putObj_heap_other (fun e => hz (e ▸ h))⟩
theorem StepZ.of_below {Z : Nat → Prop} {A B : World} (h : Below A.heap.size A B) : StepZ Z A B := ⟨h.os, h.tape, h.output, h.size, fun k hk _ => h.block k hk⟩
theorem StepZ.of_grown {Z : Nat → Prop} {A B : World} {row : Option Nat} (h : A.grownBy B row) (hr : ∀ k, row = some k → Z k) : StepZ Z A B :=
  ⟨h.os, h.tape, h.output, h.size, fun k hk hz => h.block k hk (fun e => hz (hr k e.symm))⟩
theorem StepZ.below {Z : Nat → Prop} {A B : World} {n : Nat} (h : StepZ Z A B) (hn : n ≤ A.heap.size) (hz : ∀ k, k < n → ¬ Z k) : Below n A B :=
  ⟨h.os, h.tape, h.output, h.size, fun k hk => h.block k (Nat.lt_of_lt_of_le hk hn) (hz k hk)⟩
theorem StepZ.at_ {Z : Nat → Prop} {A B : World} (h : StepZ Z A B) {k : Nat} {o : Obj} (hk : A.heap[k]? = some o) (hz : ¬ Z k) : B.heap[k]? = some o :=
  (h.block k (Array.getElem?_eq_some_iff.1 hk).1 hz).trans hk

variable {F : Fence} {n : Nat} {P : Program}

/-- THE ITERATOR's CONTRACT: it yields 'args 0', 'args 1', .., 'args (N - 1)'. The rounds leave the blocks of R as they were; the iterator writes those of Z alone. R, Z: told the heap's size where it is called. -/
def SeqL (F : Fence) (n : Nat) (P : Program) (g : Nat) (lb : Array Value) (args : Nat → Array Value) (N : Nat) (R Z : Nat → Nat → Prop) (w : World) : Prop :=
  ∀ (l : Nat) (J Jx : Nat → World → Prop) (W : World), Below w.heap.size w W →
    (∀ k A B, J k A → StepZ (Z W.heap.size) A B → J k B) → (∀ k A B, Jx k A → StepZ (Z W.heap.size) A B → Jx k B) →
    (∀ k W1, k < N → J k W1 → YieldAt F (n - 1) P l (args k) W1 fun e W' =>
      (e = .returned (.bool true) ∧ J (k + 1) W' ∧ StepZ (fun b => ¬ R W.heap.size b) W1 W') ∨ (e = .returned (.bool false) ∧ Jx k W' ∧ StepZ (fun b => ¬ R W.heap.size b) W1 W')) →
    J 0 W →
    CallsIn F n P g (#[.func (.yield l) #[] #[]] ++ lb) W fun e W' => (∃ v, e = .returned v) ∧ (J N W' ∨ ∃ k, k < N ∧ Jx k W')

/-- HOW A ROUND's BODY MAY BE LEFT. K: what it keeps. -/
def postL (K : World → World → Prop) (I : Nat → World → Prop) (Ix : Code → Nat → World → Prop) (k : Nat) (W : World) : Exit → Act → World → Prop
  | .normal, _, W' => K W W' ∧ I (k + 1) W'
  | .ret, _, W' => K W W' ∧ Ix .ret k W'
  | .exit id, _, W' => K W W' ∧ Ix (.exit id) k W'
  | .goto t, _, W' => K W W' ∧ Ix (.goto t) k W'
  | .panic _, _, _ => False
  | .outgrown, _, _ => False

/-- THE LOOP. At the heap's size h where it begins: block h holds the rounds' deferred calls, block h + 1 the loop's record. -/
theorem wpIn_rangeFunc_L {g : Operand} {ps : Array Tmp} {assign body : Code} {Q : Exit → Act → World → Prop} {a : Act} {w : World}
    (hro : F.round = none) (h1 : 1 ≤ n) {gf : Nat} {lb : Array Value} (hg : a.eval g = .func (.func gf) #[] lb) (hFg : F.fn gf) (eg : ∀ args w, (callFunc gf args).run P w = .ok (.enter gf args) w)
    {args : Nat → Array Value} {N : Nat} {R Z : Nat → Nat → Prop} {w0 : World} (hseq : SeqL F (n - 1) P gf lb args N R Z w0) (hb0 : Below w0.heap.size w0 w) (hps : ∀ k, (args k).size = ps.size)
    (hZ : ∀ b, Z (w.heap.size + 2) b → b ≠ w.heap.size ∧ b ≠ w.heap.size + 1) (hR : ∀ b, R (w.heap.size + 2) b → b ≠ w.heap.size + 1)
    (I : Nat → World → Prop) (Ix : Code → Nat → World → Prop)
    (hI : ∀ k A B, I k A → StepZ (fun b => Z (w.heap.size + 2) b ∨ b = w.heap.size + 1) A B → I k B) (hIx : ∀ c k A B, Ix c k A → StepZ (fun b => Z (w.heap.size + 2) b ∨ b = w.heap.size + 1) A B → Ix c k B)
    (h0 : I 0 ((w.alloc (.deferred (some []))).alloc (.deferred (some [])))) 
    (hround : ∀ k W, k < N → I k W → w.heap.size + 2 ≤ W.heap.size →
      assign.wpIn (F.inRound (w.heap.size + 1)) (n - 1 - 1) P (Exit.then (fun a' Wa =>
          StepZ (fun b => ¬ (R (w.heap.size + 2) b ∨ b = w.heap.size ∨ b = w.heap.size + 1)) W Wa ∧
          ∀ Wb, StepZ (fun b => b = w.heap.size + 1) Wa Wb → body.wpIn (F.inRound (w.heap.size + 1)) (n - 1 - 1) P (postL (StepZ (fun b => ¬ (R (w.heap.size + 2) b ∨ b = w.heap.size ∨ b = w.heap.size + 1))) I Ix k Wb) a' Wb)
        (fun _ _ _ => False)) { tmps := (ps.zip (args k)).foldl (fun t (p, v) => t.setIfInBounds p v) a.tmps, defers := [] } W)
    (hdone : ∀ W, I N W → w.heap.size + 2 ≤ W.heap.size → W.heap[w.heap.size]? = some (.deferred (some [])) → Q .normal { a with defers := { target := .collected w.heap.size, args := #[] } :: a.defers } W)
    (hstop : ∀ c k W, k < N → Ix c k W → w.heap.size + 2 ≤ W.heap.size → W.heap[w.heap.size]? = some (.deferred (some [])) → c.wpIn F n P Q { a with defers := { target := .collected w.heap.size, args := #[] } :: a.defers } W) :
    (Code.rangeFunc g ps assign body).wpIn F n P Q a w := by
  refine wpIn_rangeFunc ?_
  intro fn hfn
  rw [hro]
  obtain ⟨rec, hrec⟩ : ∃ rec : LoopState → Option Code → Loop, rec = fun st pe => { state := st, pending := pe, fn, tmps := a.tmps, params := ps, assign, body, defers := w.heap.size } := ⟨_, rfl⟩
  obtain ⟨W1, hW1⟩ : ∃ W1, (w.alloc (.deferred (some []))).alloc (.loop (rec .ready none)) = W1 := ⟨_, rfl⟩
  have hs1 : W1.heap.size = w.heap.size + 2 := by rw [← hW1]; simp
  have hL1 : W1.heap[w.heap.size + 1]? = some (.loop (rec .ready none)) := by
    rw [← hW1]; have := World.alloc_heap_new (w.alloc (.deferred (some []))) (.loop (rec .ready none)); rwa [World.size_alloc] at this
  have hK1 : W1.heap[w.heap.size]? = some (.deferred (some [])) := by
    rw [← hW1]; exact (Below.heap_alloc _ _ _ (by simp)).trans (World.alloc_heap_new w _)
  have hI1 : I 0 W1 := by
    refine hI 0 _ _ h0 ?_
    rw [← hW1]
    refine ⟨rfl, rfl, rfl, by simp, fun k hk hz => ?_⟩
    by_cases hkl : k < w.heap.size + 1
    · rw [Below.heap_alloc _ _ _ (by simp; omega), Below.heap_alloc (w.alloc _) _ _ (by simp; omega)]
    · have : k = w.heap.size + 1 := by simp at hk; omega
      exact absurd (Or.inr this) hz
  have hb1 : Below w0.heap.size w0 W1 := by
    rw [← hW1]; exact hb0.trans ((((Below.refl _ w).alloc (Nat.le_refl _) _).alloc (by simp) _).mono hb0.size)
  refine ⟨w.heap.size + 1, [{ target := .collected w.heap.size, args := #[] }], W1, { target := .fn (.func gf) lb, args := #[.func (.yield (w.heap.size + 1)) #[] #[]] }, W1, gf,
    #[.func (.yield (w.heap.size + 1)) #[] #[]] ++ lb, W1, ?_, ?_, ?_, ?_, fun _ => h1, ?_⟩
  · rw [← hW1, hrec]; exact run_enterLoop_outer _ _ _ _ _
  · simp only [resolve, hg]
    simp [go_sem]
  · intro f' hf'; simp [Target.leads] at hf'; subst hf'; exact hFg
  · simp [invoke, go_sem, eg]
  · have hz1 : ∀ b, Z W1.heap.size b → b ≠ w.heap.size ∧ b ≠ w.heap.size + 1 := by rw [hs1]; exact hZ
    refine (hseq (w.heap.size + 1)
      (fun k W => I k W ∧ w.heap.size + 2 ≤ W.heap.size ∧ W.heap[w.heap.size + 1]? = some (.loop (rec .ready none)) ∧ W.heap[w.heap.size]? = some (.deferred (some [])))
      (fun k W => ∃ c, Ix c k W ∧ w.heap.size + 2 ≤ W.heap.size ∧ W.heap[w.heap.size + 1]? = some (.loop (rec .done (some c))) ∧ W.heap[w.heap.size]? = some (.deferred (some [])))
      W1 hb1
      (fun k A B hs hst => ⟨hI k A B hs.1 (hst.mono (fun b _ hb => .inl (by rw [hs1] at hb; exact hb))), Nat.le_trans hs.2.1 hst.size, hst.at_ hs.2.2.1 (fun hb => (hz1 _ hb).2 rfl), hst.at_ hs.2.2.2 (fun hb => (hz1 _ hb).1 rfl)⟩)
      (fun k A B hs hst => by
        obtain ⟨c, hc, hsz, hl, hk⟩ := hs
        exact ⟨c, hIx c k A B hc (hst.mono (fun b _ hb => .inl (by rw [hs1] at hb; exact hb))), Nat.le_trans hsz hst.size, hst.at_ hl (fun hb => (hz1 _ hb).2 rfl), hst.at_ hk (fun hb => (hz1 _ hb).1 rfl)⟩)
      ?_ ⟨hI1, by omega, hL1, hK1⟩).mono ?_
    · -- one round
      rintro k W hk ⟨hi, hsz, hl, hd⟩
      have hy := run_yield (P := P) (args := args k) hl (by rw [hrec]; exact hps k)
      rw [hrec] at hy
      refine ⟨fn, _, assign, body, hy, roundIn_of_wpIn hfn (wpIn_mono (hround k W hk hi hsz) ?_)⟩
      clear hy
      rintro e a' Wa hp
      cases e with
      | normal =>
        obtain ⟨hka, hbody⟩ := hp
        have hla := hka.at_ hl (fun h => h (.inr (.inr rfl)))
        have hda := hka.at_ hd (fun h => h (.inr (.inl rfl)))
        refine ⟨_, run_beginRound hla (by rw [hrec]), ?_⟩
        have hlt : w.heap.size + 1 < Wa.heap.size := (Array.getElem?_eq_some_iff.1 hla).1
        obtain ⟨Wb, hWb⟩ : ∃ Wb, Wa.putObj (w.heap.size + 1) (.loop { rec .ready none with state := .busy }) = Wb := ⟨_, rfl⟩
        have hst : StepZ (fun b => b = w.heap.size + 1) Wa Wb := by rw [← hWb]; exact StepZ.putObj _ _ rfl
        have hlb : Wb.heap[w.heap.size + 1]? = some (.loop { rec .ready none with state := .busy }) := by rw [← hWb]; exact World.putObj_heap_same hlt
        have hdb := hst.at_ hda (by omega)
        have hwb : w.heap.size + 2 ≤ Wb.heap.size := Nat.le_trans hsz (Nat.le_trans hka.size hst.size)
        rw [hWb]
        refine wpIn_mono (hbody Wb hst) ?_
        have fin : ∀ (jump : Option Code) (W3 : World), StepZ (fun b => ¬ (R (w.heap.size + 2) b ∨ b = w.heap.size ∨ b = w.heap.size + 1)) Wb W3 →
            (Instr.endRound (w.heap.size + 1) jump).run P W3 = .ok (.bool jump.isNone) (W3.putObj (w.heap.size + 1) (.loop (rec (if jump.isNone then .ready else .done) jump))) ∧
            StepZ (fun b => b = w.heap.size + 1) W3 (W3.putObj (w.heap.size + 1) (.loop (rec (if jump.isNone then .ready else .done) jump))) ∧
            (W3.putObj (w.heap.size + 1) (.loop (rec (if jump.isNone then .ready else .done) jump))).heap[w.heap.size + 1]? = some (.loop (rec (if jump.isNone then .ready else .done) jump)) ∧
            (W3.putObj (w.heap.size + 1) (.loop (rec (if jump.isNone then .ready else .done) jump))).heap[w.heap.size]? = some (.deferred (some [])) ∧
            w.heap.size + 2 ≤ (W3.putObj (w.heap.size + 1) (.loop (rec (if jump.isNone then .ready else .done) jump))).heap.size ∧
            StepZ (fun b => ¬ R W1.heap.size b) W (W3.putObj (w.heap.size + 1) (.loop (rec (if jump.isNone then .ready else .done) jump))) := fun jump W3 hk3 => by
          have hl3 := hk3.at_ hlb (fun h => h (.inr (.inr rfl)))
          have hd3 := hk3.at_ hdb (fun h => h (.inr (.inl rfl)))
          have := run_endRound (P := P) jump hl3
          have hlt3 := (Array.getElem?_eq_some_iff.1 hl3).1
          have hst3 : StepZ (fun b => b = w.heap.size + 1) W3 (W3.putObj (w.heap.size + 1) (.loop (rec (if jump.isNone then .ready else .done) jump))) := StepZ.putObj _ _ rfl
          refine ⟨by rw [hrec] at this ⊢; exact this, hst3, World.putObj_heap_same hlt3, hst3.at_ hd3 (by omega), Nat.le_trans hwb (Nat.le_trans hk3.size hst3.size), ?_⟩
          have m1 : ∀ {A B : World}, StepZ (fun b => b = w.heap.size + 1) A B → StepZ (fun b => ¬ R W1.heap.size b) A B := fun h => h.mono (fun b _ e hr => by rw [hs1] at hr; exact hR b hr e)
          have m2 : ∀ {A B : World}, StepZ (fun b => ¬ (R (w.heap.size + 2) b ∨ b = w.heap.size ∨ b = w.heap.size + 1)) A B → StepZ (fun b => ¬ R W1.heap.size b) A B := fun h => h.mono (fun b _ e hr => by rw [hs1] at hr; exact e (.inl hr))
          exact (((m2 hka).trans (m1 hst)).trans (m2 hk3)).trans (m1 hst3)
        rintro e a3 W3 hp3
        cases e with
        | normal =>
          obtain ⟨hk3, hi3⟩ := hp3
          obtain ⟨hr, hst3, hl4, hd4, hsz4, hkk⟩ := fin none W3 hk3
          exact ⟨_, _, hr, .inl ⟨rfl, ⟨hI _ _ _ hi3 (hst3.mono (fun b _ e => .inr e)), hsz4, hl4, hd4⟩, hkk⟩⟩
        | ret =>
          obtain ⟨hk3, hi3⟩ := hp3
          obtain ⟨hr, hst3, hl4, hd4, hsz4, hkk⟩ := fin (some .ret) W3 hk3
          exact ⟨_, _, hr, .inr ⟨rfl, ⟨.ret, hIx _ _ _ _ hi3 (hst3.mono (fun b _ e => .inr e)), hsz4, hl4, hd4⟩, hkk⟩⟩
        | exit id =>
          obtain ⟨hk3, hi3⟩ := hp3
          obtain ⟨hr, hst3, hl4, hd4, hsz4, hkk⟩ := fin (some (.exit id)) W3 hk3
          exact ⟨_, _, hr, .inr ⟨rfl, ⟨.exit id, hIx _ _ _ _ hi3 (hst3.mono (fun b _ e => .inr e)), hsz4, hl4, hd4⟩, hkk⟩⟩
        | goto t =>
          obtain ⟨hk3, hi3⟩ := hp3
          obtain ⟨hr, hst3, hl4, hd4, hsz4, hkk⟩ := fin (some (.goto t)) W3 hk3
          exact ⟨_, _, hr, .inr ⟨rfl, ⟨.goto t, hIx _ _ _ _ hi3 (hst3.mono (fun b _ e => .inr e)), hsz4, hl4, hd4⟩, hkk⟩⟩
        | panic ch => exact hp3.elim
        | outgrown => exact hp3.elim
      | ret => exact hp.elim
      | exit id => exact hp.elim
      | goto t => exact hp.elim
      | panic ch => exact hp.elim
      | outgrown => exact hp.elim
    · -- behind the iterator
      rintro e W2 ⟨⟨v, rfl⟩, (⟨hi, hsz, hl, hd⟩ | ⟨k, hkN, c, hi, hsz, hl, hd⟩)⟩
      · have hst : StepZ (fun b => b = w.heap.size + 1) W2 (W2.putObj (w.heap.size + 1) (.loop (rec .exhausted none))) := StepZ.putObj _ _ rfl
        exact ⟨none, _, by have := run_endLoop (P := P) hl (by rw [hrec]; simp); rw [hrec] at this ⊢; exact this, hdone _ (hI _ _ _ hi (hst.mono (fun b _ e => .inr e))) (Nat.le_trans hsz hst.size) (hst.at_ hd (by omega))⟩
      · have hst : StepZ (fun b => b = w.heap.size + 1) W2 (W2.putObj (w.heap.size + 1) (.loop (rec .exhausted (some c)))) := StepZ.putObj _ _ rfl
        exact ⟨some c, _, by have := run_endLoop (P := P) hl (by rw [hrec]; simp); rw [hrec] at this ⊢; exact this, hstop c k _ hkN (hIx _ _ _ _ hi (hst.mono (fun b _ e => .inr e))) (Nat.le_trans hsz hst.size) (hst.at_ hd (by omega))⟩

/-- A function whose body holds such a loop: entered, at the fence that lets in whatever there is. -/
theorem calls_of_wp_marks {f : FuncId} {fn : Func} {c : Code} {args : Array Value} {w : World} {R : Ending → World → Prop}
    (hf : P.funcs[f]? = some fn) (hb : fn.body = some c)
    (h : c.wp P (bodyPostM Fence.wide 10 P fn R) { tmps := args ++ Array.replicate (fn.ntmps - args.size) undef, defers := [] } w) : Calls P f args w R :=
  (callsIn_wide (n := 10)).1 (callsIn_of_wp_marks hf hb trivial (wpIn_wide.2 h))

theorem leave_plain {fn : Func} {tmps : Array Value} {R : Ending → World → Prop} {v : Value} {W : World} (h : (results fn tmps).run P W = .ok v W) (hR : R (.returned v) W) :
    bodyPostM Fence.wide 10 P fn R .ret { tmps, defers := [] } W := ⟨v, h, hR⟩

theorem leave_marked {fn : Func} {tmps : Array Value} {R : Ending → World → Prop} {v : Value} {W : World} {D : Nat} (hD : W.heap[D]? = some (.deferred (some [])))
    (h : (results fn tmps).run P (W.putObj D (.deferred none)) = .ok v (W.putObj D (.deferred none))) (hR : R (.returned v) (W.putObj D (.deferred none))) :
    bodyPostM Fence.wide 10 P fn R .ret { tmps, defers := [{ target := .collected D, args := #[] }] } W :=
  ⟨by simp, .inl ⟨_, _, rfl, run_takeDeferred hD, v, h, hR⟩⟩

/-- A row of the call's own stays so over what turns no block from 'base' on. -/
theorem own_step {Z : Nat → Prop} {A B : World} {base n : Nat} {e : TypeId} {size : Nat} {v : Value} {xs : List Value} (h : A.ownsRow base e size v n xs) (hst : StepZ Z A B) (hz : ∀ k, base ≤ k → ¬ Z k) : B.ownsRow base e size v n xs := by
  obtain ⟨h1, h2⟩ := h
  refine ⟨h1, ?_⟩
  rcases h2 with h2 | ⟨g, cap, cur, rfl, hg, hh, r⟩
  · exact .inl h2
  · exact .inr ⟨g, cap, cur, rfl, hg, hst.at_ hh (hz g hg), r⟩

/-- THE LOOP, at the wide fence. -/
theorem wp_rangeFunc_L {g : Operand} {ps : Array Tmp} {assign body : Code} {Q : Exit → Act → World → Prop} {a : Act} {w : World}
    {gf : Nat} {lb : Array Value} (hg : a.eval g = .func (.func gf) #[] lb) (eg : ∀ args w, (callFunc gf args).run P w = .ok (.enter gf args) w)
    {args : Nat → Array Value} {N : Nat} {R Z : Nat → Nat → Prop} {w0 : World} (hseq : SeqL Fence.wide 9 P gf lb args N R Z w0) (hb0 : Below w0.heap.size w0 w) (hps : ∀ k, (args k).size = ps.size)
    (hZ : ∀ b, Z (w.heap.size + 2) b → b ≠ w.heap.size ∧ b ≠ w.heap.size + 1) (hR : ∀ b, R (w.heap.size + 2) b → b ≠ w.heap.size + 1)
    (I : Nat → World → Prop) (Ix : Code → Nat → World → Prop)
    (hI : ∀ k A B, I k A → StepZ (fun b => Z (w.heap.size + 2) b ∨ b = w.heap.size + 1) A B → I k B) (hIx : ∀ c k A B, Ix c k A → StepZ (fun b => Z (w.heap.size + 2) b ∨ b = w.heap.size + 1) A B → Ix c k B)
    (h0 : I 0 ((w.alloc (.deferred (some []))).alloc (.deferred (some []))))
    (hround : ∀ k W, k < N → I k W → w.heap.size + 2 ≤ W.heap.size →
      assign.wpIn (Fence.wide.inRound (w.heap.size + 1)) 8 P (Exit.then (fun a' Wa =>
          StepZ (fun b => ¬ (R (w.heap.size + 2) b ∨ b = w.heap.size ∨ b = w.heap.size + 1)) W Wa ∧
          ∀ Wb, StepZ (fun b => b = w.heap.size + 1) Wa Wb → body.wpIn (Fence.wide.inRound (w.heap.size + 1)) 8 P (postL (StepZ (fun b => ¬ (R (w.heap.size + 2) b ∨ b = w.heap.size ∨ b = w.heap.size + 1))) I Ix k Wb) a' Wb)
        (fun _ _ _ => False)) { tmps := (ps.zip (args k)).foldl (fun t (p, v) => t.setIfInBounds p v) a.tmps, defers := [] } W)
    (hdone : ∀ W, I N W → w.heap.size + 2 ≤ W.heap.size → W.heap[w.heap.size]? = some (.deferred (some [])) → Q .normal { a with defers := { target := .collected w.heap.size, args := #[] } :: a.defers } W)
    (hstop : ∀ c k W, k < N → Ix c k W → w.heap.size + 2 ≤ W.heap.size → W.heap[w.heap.size]? = some (.deferred (some [])) → c.wp P Q { a with defers := { target := .collected w.heap.size, args := #[] } :: a.defers } W) :
    (Code.rangeFunc g ps assign body).wp P Q a w :=
  (wpIn_wide (n := 10)).1 (wpIn_rangeFunc_L rfl (by omega) hg trivial eg hseq hb0 hps hZ hR I Ix hI hIx h0 hround hdone (fun c k W hk hx hs hd => wpIn_wide.2 (hstop c k W hk hx hs hd)))

end Go.Proofs.Ytfncbcbhhddnpaa.Rng
