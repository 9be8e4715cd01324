/- The contract of keys.Of. -/
import Derived.Test.YtfncbcbhhddnpaaKKey
namespace Go.Proofs.Ytfncbcbhhddnpaa.K
open Go.RowKit Go.MapKept Go.Proofs.YtfncbcbhhddnpaaW.PrintWords Go.Proofs.YtfncbcbhhddnpaaW.PrintLast Go.Proofs.YtfncbcbhhddnpaaW.PrintMore
set_option linter.unusedVariables false
set_option linter.unusedSimpArgs false

theorem one_within (lo hi x : Int) (W : World) (g : Nat) (hb : W.heap[g]? = some (.cells #[.int .u32 x] 22 (0, 0))) :
    Calls Try.prog 23 #[.int .u32 lo, .int .u32 hi, .slice (some ⟨g, 0, none⟩) 1 1] W fun e w' => e = .returned (.bool (decide (lo ≤ x ∧ x ≤ hi))) ∧ Drawn0 W w' :=
  keys_within.calls 3 lo hi _ 1 [x] _ W (C_of_block (Kd.int .u32) (fun x => [.int .u32 x]) hb [x] (fun _ => rfl) (fun _ => rfl) rfl (by simp)) (Nat.le_refl _) (within_one lo hi x)

theorem one_bytes (mark n sz : Int) (s : ByteArray) (W : World) (g : Nat) (hs : keys_bytes.f 40 mark [⟨n, sz⟩] = some s) (hb : W.heap[g]? = some (.cells #[.int .u32 n, .int .i64 sz] 45 (0, 0))) :
    Calls Try.prog 18 #[.int .u8 mark, .slice (some ⟨g, 0, none⟩) 1 1] W fun e w' => e = .returned (.string s) ∧ Below W.heap.size W w' :=
  keys_bytes.calls 40 mark _ 1 [⟨n, sz⟩] s W (C_of_block k45 (fun x => [.int .u32 x.f0, .int .i64 x.f1]) hb [⟨n, sz⟩] (fun _ => rfl) (fun x => k45_mk _ x) rfl (by simp)) (Nat.le_refl _) hs

theorem cell_alloc_old {w : World} {a : Addr} {v : Value} (X : Obj) (h : w.cell? a = some v) : (w.alloc X).cell? a = some v := (Below.cell (B := w.heap.size) (below_alloc (Below.refl _ _) X) (by
  unfold World.cell? at h
  cases hb : w.heap[a.block]? with
  | none => simp [hb] at h
  | some o => exact (Array.getElem?_eq_some_iff.1 hb).1)).trans h
theorem cell_drew_old {w : World} {a : Addr} {v : Value} (h : w.cell? a = some v) : w.drew.cell? a = some v := h

set_option maxHeartbeats 1000000 in
theorem keys_Of.no1 (k a : Int) (w : World) (h1 : (k == 2) = false) (h2 : (k == 3) = false) :
    Calls Try.prog 16 #[.int .i64 k, .int .u32 a] w fun e w' => e = .returned (.tuple #[.string ⟨#[]⟩, .string ⟨#[]⟩, .int .i64 100]) ∧ Below w.heap.size w w' := by
  have h3 : (k != 2) = true := by simpa using h1
  have h4 : (k != 3) = true := by simpa using h2
  go_enter Try.func16, Try.ntmps16
  go_wp2
  go_ret3
  exact ⟨rfl, Below.refl _ _⟩

set_option maxHeartbeats 1000000 in
theorem keys_Of.no2 (k a : Int) (w : World) (h1 : k = 2 ∨ k = 3) (ha : decide (1 ≤ a ∧ a ≤ 1000000) = false) :
    Calls Try.prog 16 #[.int .i64 k, .int .u32 a] w fun e w' => e = .returned (.tuple #[.string ⟨#[]⟩, .string ⟨#[]⟩, .int .i64 100]) ∧ Below w.heap.size w w' := by
  have HA := Aside0.mk ha
  clear ha
  rcases h1 with rfl | rfl
  all_goals
    go_enter Try.func16, Try.ntmps16
    go_wp2_with (go_at_call 23; refine (one_within 1 1000000 a _ _ (MapKept.heap_alloc _ _).1).mono ?_; rw [HA.out]; rintro e w1 ⟨rfl, ⟨nd, rfl⟩⟩)
    go_ret3
    exact ⟨rfl, pw_below_drewN (below_alloc (Below.refl _ _) _) _⟩

set_option maxHeartbeats 4000000 in
theorem keys_Of.yes (k a : Int) (s t : ByteArray) (w : World) (h1 : k = 2 ∨ k = 3) (ha : 1 ≤ a ∧ a ≤ 1000000) (hs : keys_bytes.f 40 (fmark k) [⟨a, 4⟩] = some s) (ht : keys_bytes.f 40 (fmark k) [⟨a + 1, 4⟩] = some t) :
    Calls Try.prog 16 #[.int .i64 k, .int .u32 a] w fun e w' => e = .returned (.tuple #[.string s, .string t, .int .i64 0]) ∧ Below w.heap.size w w' := by
  have HA := Aside0.mk (decide_eq_true ha)
  have HK := Aside0.mk h1
  have HS := Aside0.mk hs
  have HT := Aside0.mk ht
  have hn : (k != 2 && k != 3) = false := by rcases h1 with rfl | rfl <;> rfl
  have hb3 : Below w.heap.size w w := Below.refl _ _
  obtain ⟨a1, a2⟩ := ha
  have hu40 := Try.underlying40
  clear hs ht
  have HF := Aside0.mk forms_calls'
  have l2 : ∀ (W : World), (Instr.lookup 41 (.map (some W.heap.size)) (.int .i64 2) false).run Try.prog (W.alloc (.map formsE 6)) = .ok (formV 105 4 2 0) (W.alloc (.map formsE 6)) := fun W => run_lookup_forms (MapKept.heap_alloc W _).1 2 (by omega) (by omega)
  have l3 : ∀ (W : World), (Instr.lookup 41 (.map (some W.heap.size)) (.int .i64 3) false).run Try.prog (W.alloc (.map formsE 6)) = .ok (formV 109 4 0 4) (W.alloc (.map formsE 6)) := fun W => run_lookup_forms (MapKept.heap_alloc W _).1 3 (by omega) (by omega)
  rcases h1 with rfl | rfl
  · go_enter Try.func16, Try.ntmps16
    go_upto_region 4 with (first
      | (go_at_call 23; refine (one_within 1 1000000 a _ _ (MapKept.heap_alloc _ _).1).mono ?_; rw [HA.out]; rintro e w1 ⟨rfl, hd1⟩; have hb1 := below_then (below_alloc (Below.refl w.heap.size w) _) (by simp) hd1.below; clear hd1)
      | (go_at_call 17; refine (HF.out _).mono ?_; rintro e w2 ⟨rfl, rfl⟩))
    have hg := alloc2_new w1 (.map formsE 6) (.cells #[.int .u8 105, .int .i64 4, .int .i64 2, .int .i64 0] 40)
    have hB := Aside0.mk (below_alloc (below_alloc hb1 (.map formsE 6)) (.cells #[.int .u8 105, .int .i64 4, .int .i64 2, .int .i64 0] 40))
    clear l2 l3 hb1
    generalize (w1.alloc (.map formsE 6)).alloc (.cells #[.int .u8 105, .int .i64 4, .int .i64 2, .int .i64 0] 40) = W at *
    generalize w1.heap.size + 1 = g at *
    have q0 : W.cell? ⟨g, 0, none⟩ = some (.int .u8 105) := (blk_cell hg 0).trans rfl
    have q1 : W.cell? ⟨g, 1, none⟩ = some (.int .i64 4) := (blk_cell hg 1).trans rfl
    have hlt : g < W.heap.size := (Array.getElem?_eq_some_iff.1 hg).1
    clear hg
    have hwr : IntKind.u32.wrap (a + 1) = a + 1 := IntWalk.u32_in _ (by omega)
    go_region_held3 (fun w' => w'.cell? ⟨g, 0, none⟩ = some (.int .u8 105) ∧ w'.cell? ⟨g, 1, none⟩ = some (.int .i64 4)) (go_keep)
      (first
        | (go_at_call 18; refine (one_bytes 105 a 4 s _ _ HS.out (by first | exact (MapKept.heap_alloc _ _).1 | exact alloc2_fst _ _ _ | exact alloc2_new _ _ _ | exact (hb3.block _ (by simp; try omega)).trans (alloc2_fst _ _ _) | exact (hb3.block _ (by simp; try omega)).trans (alloc2_new _ _ _))).mono ?_; rintro e w3 ⟨rfl, hb3⟩; have q0 := (hb3.cell (p := ⟨g, 0, none⟩) (by simp; try omega)).trans (by repeat (first | exact q0 | apply cell_alloc_old | apply cell_drew_old)); have q1 := (hb3.cell (p := ⟨g, 1, none⟩) (by simp; try omega)).trans (by repeat (first | exact q1 | apply cell_alloc_old | apply cell_drew_old)); have hlt : g < w3.heap.size := Nat.lt_of_lt_of_le hlt (Nat.le_trans (by simp; try omega) hb3.size); have hB := Aside0.mk (below_step (by repeat (first | exact hB.out | apply below_alloc | apply below_drew1)) hb3))
        | (go_at_call 18; refine (one_bytes 105 (a + 1) 4 t _ _ HT.out (by first | exact (MapKept.heap_alloc _ _).1 | exact alloc2_fst _ _ _ | exact alloc2_new _ _ _ | exact (hb3.block _ (by simp; try omega)).trans (alloc2_fst _ _ _) | exact (hb3.block _ (by simp; try omega)).trans (alloc2_new _ _ _))).mono ?_; rintro e w3 ⟨rfl, hb3⟩; have q0 := (hb3.cell (p := ⟨g, 0, none⟩) (by simp; try omega)).trans (by repeat (first | exact q0 | apply cell_alloc_old | apply cell_drew_old)); have q1 := (hb3.cell (p := ⟨g, 1, none⟩) (by simp; try omega)).trans (by repeat (first | exact q1 | apply cell_alloc_old | apply cell_drew_old)); have hlt : g < w3.heap.size := Nat.lt_of_lt_of_le hlt (Nat.le_trans (by simp; try omega) hb3.size); have hB := Aside0.mk (below_step (by repeat (first | exact hB.out | apply below_alloc | apply below_drew1)) hb3)))
    all_goals (go_wp2_with fail; go_ret3; exact ⟨rfl, hB.out⟩)
  · go_enter Try.func16, Try.ntmps16
    go_upto_region 4 with (first
      | (go_at_call 23; refine (one_within 1 1000000 a _ _ (MapKept.heap_alloc _ _).1).mono ?_; rw [HA.out]; rintro e w1 ⟨rfl, hd1⟩; have hb1 := below_then (below_alloc (Below.refl w.heap.size w) _) (by simp) hd1.below; clear hd1)
      | (go_at_call 17; refine (HF.out _).mono ?_; rintro e w2 ⟨rfl, rfl⟩))
    have hg := alloc2_new w1 (.map formsE 6) (.cells #[.int .u8 109, .int .i64 4, .int .i64 0, .int .i64 4] 40)
    have hB := Aside0.mk (below_alloc (below_alloc hb1 (.map formsE 6)) (.cells #[.int .u8 109, .int .i64 4, .int .i64 0, .int .i64 4] 40))
    clear l2 l3 hb1
    generalize (w1.alloc (.map formsE 6)).alloc (.cells #[.int .u8 109, .int .i64 4, .int .i64 0, .int .i64 4] 40) = W at *
    generalize w1.heap.size + 1 = g at *
    have q0 : W.cell? ⟨g, 0, none⟩ = some (.int .u8 109) := (blk_cell hg 0).trans rfl
    have q1 : W.cell? ⟨g, 1, none⟩ = some (.int .i64 4) := (blk_cell hg 1).trans rfl
    have hlt : g < W.heap.size := (Array.getElem?_eq_some_iff.1 hg).1
    clear hg
    have hwr : IntKind.u32.wrap (a + 1) = a + 1 := IntWalk.u32_in _ (by omega)
    go_region_held3 (fun w' => w'.cell? ⟨g, 0, none⟩ = some (.int .u8 109) ∧ w'.cell? ⟨g, 1, none⟩ = some (.int .i64 4)) (go_keep)
      (first
        | (go_at_call 18; refine (one_bytes 109 a 4 s _ _ HS.out (by first | exact (MapKept.heap_alloc _ _).1 | exact alloc2_fst _ _ _ | exact alloc2_new _ _ _ | exact (hb3.block _ (by simp; try omega)).trans (alloc2_fst _ _ _) | exact (hb3.block _ (by simp; try omega)).trans (alloc2_new _ _ _))).mono ?_; rintro e w3 ⟨rfl, hb3⟩; have q0 := (hb3.cell (p := ⟨g, 0, none⟩) (by simp; try omega)).trans (by repeat (first | exact q0 | apply cell_alloc_old | apply cell_drew_old)); have q1 := (hb3.cell (p := ⟨g, 1, none⟩) (by simp; try omega)).trans (by repeat (first | exact q1 | apply cell_alloc_old | apply cell_drew_old)); have hlt : g < w3.heap.size := Nat.lt_of_lt_of_le hlt (Nat.le_trans (by simp; try omega) hb3.size); have hB := Aside0.mk (below_step (by repeat (first | exact hB.out | apply below_alloc | apply below_drew1)) hb3))
        | (go_at_call 18; refine (one_bytes 109 (a + 1) 4 t _ _ HT.out (by first | exact (MapKept.heap_alloc _ _).1 | exact alloc2_fst _ _ _ | exact alloc2_new _ _ _ | exact (hb3.block _ (by simp; try omega)).trans (alloc2_fst _ _ _) | exact (hb3.block _ (by simp; try omega)).trans (alloc2_new _ _ _))).mono ?_; rintro e w3 ⟨rfl, hb3⟩; have q0 := (hb3.cell (p := ⟨g, 0, none⟩) (by simp; try omega)).trans (by repeat (first | exact q0 | apply cell_alloc_old | apply cell_drew_old)); have q1 := (hb3.cell (p := ⟨g, 1, none⟩) (by simp; try omega)).trans (by repeat (first | exact q1 | apply cell_alloc_old | apply cell_drew_old)); have hlt : g < w3.heap.size := Nat.lt_of_lt_of_le hlt (Nat.le_trans (by simp; try omega) hb3.size); have hB := Aside0.mk (below_step (by repeat (first | exact hB.out | apply below_alloc | apply below_drew1)) hb3)))
    all_goals (go_wp2_with fail; go_ret3; exact ⟨rfl, hB.out⟩)

def keys_Of.f (k a : Int) : Option (ByteArray × ByteArray × Int) :=
  if (k = 2 ∨ k = 3) ∧ (1 ≤ a ∧ a ≤ 1000000) then (keys_bytes.f 40 (fmark k) [⟨a, 4⟩]).bind fun s => (keys_bytes.f 40 (fmark k) [⟨a + 1, 4⟩]).bind fun t => some (s, t, 0) else some (⟨#[]⟩, ⟨#[]⟩, 100)

theorem keys_Of.calls (a0 : Int) (a1 : Int) (r1 : ByteArray) (r2 : ByteArray) (r3 : Int) (w : World) (h : keys_Of.f a0 a1 = some (r1, r2, r3)) :
    Calls Try.prog 16 #[.int .i64 a0, .int .u32 a1] w fun e w' => e = .returned (.tuple #[.string r1, .string r2, .int .i64 r3]) ∧ Below w.heap.size w w' := by
  unfold keys_Of.f at h
  by_cases hk : a0 = 2 ∨ a0 = 3
  · by_cases ha : 1 ≤ a1 ∧ a1 ≤ 1000000
    · rw [if_pos ⟨hk, ha⟩] at h
      cases hs : keys_bytes.f 40 (fmark a0) [⟨a1, 4⟩] with
      | none => rw [hs] at h; cases h
      | some s =>
        cases ht : keys_bytes.f 40 (fmark a0) [⟨a1 + 1, 4⟩] with
        | none => rw [hs, ht] at h; cases h
        | some t =>
          rw [hs, ht] at h
          cases h
          exact keys_Of.yes _ _ _ _ w hk ha hs ht
    · rw [if_neg (fun h => ha h.2)] at h
      cases h
      exact keys_Of.no2 _ _ w hk (decide_eq_false ha)
  · rw [if_neg (fun h => hk h.1)] at h
    cases h
    exact keys_Of.no1 _ _ w (beq_eq_false_iff_ne.2 (fun e => hk (.inl e))) (beq_eq_false_iff_ne.2 (fun e => hk (.inr e)))
end Go.Proofs.Ytfncbcbhhddnpaa.K
