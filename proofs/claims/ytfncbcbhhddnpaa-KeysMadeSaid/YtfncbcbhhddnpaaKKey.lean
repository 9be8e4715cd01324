/- The contract of keys.Key. -/
import Derived.Test.YtfncbcbhhddnpaaKForms
import Derived.Test.YtfncbcbhhddnpaaKx3
import Derived.Test.YtfncbcbhhddnpaaKx4
import Derived.Deep.RegionHeld3
import Derived.Deep.DeepCutAuto
import Derived.Deep.RegionWith
namespace Go.Proofs.Ytfncbcbhhddnpaa.K
open Go.RowKit Go.MapKept Go.Proofs.YtfncbcbhhddnpaaW.PrintWords Go.Proofs.YtfncbcbhhddnpaaW.PrintLast Go.Proofs.YtfncbcbhhddnpaaW.PrintMore
set_option linter.unusedVariables false
set_option linter.unusedSimpArgs false

theorem flat_at {α : Type} (enc : α → List Value) (sz : Nat) (hsz : ∀ x, (enc x).length = sz) : ∀ (xs : List α) (j : Nat) (x : α) (i : Nat) (u : Value), xs[j]? = some x → (enc x)[i]? = some u → (xs.flatMap enc)[j * sz + i]? = some u
  | [], j, x, i, u, h, _ => by simp at h
  | y :: ys, 0, x, i, u, h, hu => by
    simp at h
    subst h
    have hi : i < (enc y).length := (List.getElem?_eq_some_iff.1 hu).1
    simp only [List.flatMap_cons, Nat.zero_mul, Nat.zero_add]
    rw [List.getElem?_append_left hi]
    exact hu
  | y :: ys, j + 1, x, i, u, h, hu => by
    simp only [List.getElem?_cons_succ] at h
    have := flat_at enc sz hsz ys j x i u h hu
    have e : (j + 1) * sz + i = (enc y).length + (j * sz + i) := by rw [hsz, Nat.add_mul]; omega
    simp only [List.flatMap_cons]
    rw [e, List.getElem?_append_right (by omega)]
    simpa using this

theorem C_of_block {α : Type} (d : Kd α) (enc : α → List Value) {W : World} {g : Nat} {cells : Array Value} {t : TypeId} (hb : W.heap[g]? = some (.cells cells t (0, 0))) (xs : List α)
    (hsz : ∀ x, (enc x).length = d.sz) (hK : ∀ x, d.K W x (enc x)) (hcs : cells.toList = xs.flatMap enc) (hn : xs.length ≤ 9223372036854775807) : d.C W (some ⟨g, 0, none⟩) xs.length xs := by
  refine ⟨rfl, hn, fun _ => ⟨_, rfl, fun j x hj => ⟨enc x, hsz x, hK x, fun i u hu => ?_⟩⟩⟩
  have := flat_at enc d.sz hsz xs j x i u hj hu
  rw [← hcs] at this
  have h2 : cells[j * d.sz + i]? = some u := by simpa using this
  rw [show (⟨g, 0, none⟩ : Addr).add (j * d.sz + i) = ⟨g, j * d.sz + i, none⟩ from by unfold Addr.add; split <;> simp_all]
  exact (blk_cell hb _).trans h2

theorem alloc2_new (w : World) (X Y : Obj) : ((w.alloc X).alloc Y).heap[w.heap.size + 1]? = some Y := by simpa using (MapKept.heap_alloc (w.alloc X) Y).1
theorem alloc2_fst (w : World) (X Y : Obj) : ((w.alloc X).alloc Y).heap[w.heap.size]? = some X := ((MapKept.heap_alloc (w.alloc X) Y).2 _ (by simp)).trans (MapKept.heap_alloc w X).1
theorem alloc_old {w : World} {g : Nat} {o : Obj} (X : Obj) (h : w.heap[g]? = some o) : (w.alloc X).heap[g]? = some o := ((MapKept.heap_alloc w X).2 _ (Array.getElem?_eq_some_iff.1 h).1).trans h

theorem within_one (lo hi x : Int) : keys_within.f 3 lo hi [x] = some (decide (lo ≤ x ∧ x ≤ hi)) := by
  simp [keys_within.f, keys_within.l0, rd, wrap64]
  by_cases h1 : x < lo
  · simp [h1]; omega
  · by_cases h2 : hi < x
    · simp [h1, h2]
    · simp [h1, h2]; omega

def rightB (k a i m : Int) : Bool :=
  (k == 3 && decide (1 ≤ m ∧ m ≤ 1073741824) && i == 0 && decide (1 ≤ a ∧ a ≤ 1000000)) ||
  (k == 1 && m == 0 && i == 0 && decide (1 ≤ a ∧ a ≤ 1000000)) ||
  (k == 2 && m == 0 && decide (1 ≤ a ∧ a ≤ 1000000)) ||
  (k == 4 && m == 0 && i == 0 && decide (1 ≤ a ∧ a ≤ 1073741824)) ||
  (k == 5 && m == 0 && i == 0 && decide (1 ≤ a ∧ a ≤ 2)) ||
  (k == 6 && m == 0 && decide (0 ≤ a ∧ a ≤ 1))

theorem right_f (k a i m : Int) : keys_Right.f 3 k a i m = some (rightB k a i m) := by
  unfold keys_Right.f rightB
  simp only [within_one, Option.bind_some]
  by_cases e3 : k = 3
  · subst e3
    by_cases hm : 1 ≤ m ∧ m ≤ 1073741824 <;> by_cases hi : i = 0 <;> simp [hm, hi]
  · by_cases hm : m = 0 <;> by_cases hi : i = 0 <;> by_cases e1 : k = 1 <;> by_cases e2 : k = 2 <;> by_cases e4 : k = 4 <;> by_cases e5 : k = 5 <;> by_cases e6 : k = 6 <;> simp_all

theorem right_calls (k a i m : Int) (w : World) : Calls Try.prog 13 #[.agg #[.int .i64 k, .int .u32 a, .int .u16 i, .int .u32 m]] w fun e w' => e = .returned (.bool (rightB k a i m)) ∧ Below w.heap.size w w' :=
  keys_Right.calls 3 k a i m _ w (right_f k a i m)

def fmark (k : Int) : Int := if k = 1 then 97 else if k = 2 then 105 else if k = 3 then 109 else if k = 4 then 115 else if k = 5 then 110 else 116
def fa (k : Int) : Int := if k = 5 then 1 else if k = 6 then 1 else 4
def fi (k : Int) : Int := if k = 2 then 2 else if k = 6 then 2 else 0
def fl (k : Int) : Int := if k = 3 then 4 else 0
def formsE : Array MapEntry := #[⟨.int .i64 1, formV 97 4 0 0, 0⟩, ⟨.int .i64 2, formV 105 4 2 0, 1⟩, ⟨.int .i64 3, formV 109 4 0 4, 2⟩, ⟨.int .i64 4, formV 115 4 0 0, 3⟩, ⟨.int .i64 5, formV 110 1 0 0, 4⟩, ⟨.int .i64 6, formV 116 1 2 0, 5⟩]

theorem run_lookup_forms {W : World} {b : Nat} (hb : W.heap[b]? = some (.map formsE 6)) (k : Int) (h1 : 1 ≤ k) (h2 : k ≤ 6) :
    (Instr.lookup 41 (.map (some b)) (.int .i64 k) false).run Try.prog W = .ok (formV (fmark k) (fa k) (fi k) (fl k)) W := by
  have hf : ∃ j, Instr.findNow (.int .i64) (.int .i64 k) formsE.toList 0 = some (some (j, formV (fmark k) (fa k) (fi k) (fl k))) := by
    obtain rfl | rfl | rfl | rfl | rfl | rfl : k = 1 ∨ k = 2 ∨ k = 3 ∨ k = 4 ∨ k = 5 ∨ k = 6 := by omega
    all_goals exact ⟨_, rfl⟩
  obtain ⟨j, hf⟩ := hf
  simp only [Instr.lookup, Sem.run_bind, run_underlying Try.underlying41, Result.andThen, MapKept.run_getObj_map hb, run_checkKey3, run_findKey Try.underlying3 hf, Sem.run_pure]
  rfl

theorem right_kind {k a i m : Int} (h : rightB k a i m = true) : 1 ≤ k ∧ k ≤ 6 := by
  simp [rightB] at h
  omega

theorem forms_calls' (w : World) : Calls Try.prog 17 #[] w fun e w' => e = .returned (.map (some w.heap.size)) ∧ w' = w.alloc (.map formsE 6) := forms_calls w

def keys_Key.f (k a i m : Int) : Option (ByteArray × Int) :=
  if 65535 < i ∨ i < 0 then none else if rightB k a i m = true then (keys_bytes.f 40 (fmark k) [⟨a, fa k⟩, ⟨i, fi k⟩, ⟨m, fl k⟩]).bind fun s => some (s, 0) else some (⟨#[]⟩, 100)

set_option maxHeartbeats 1000000 in
theorem keys_Key.no (k a i m : Int) (w : World) (h : rightB k a i m = false) :
    Calls Try.prog 9 #[.agg #[.int .i64 k, .int .u32 a, .int .u16 i, .int .u32 m]] w fun e w' => e = .returned (.tuple #[.string ⟨#[]⟩, .int .i64 100]) ∧ Below w.heap.size w w' := by
  have HR := right_calls k a i m
  rw [h] at HR
  have HR' := Aside0.mk HR
  clear HR h
  have hu25 := Try.underlying25
  go_enter Try.func9, Try.ntmps9
  go_wp2_with (go_at_call 13; refine (HR'.out _).mono ?_; rintro e w' ⟨rfl, hb⟩)
  go_ret2
  refine ⟨rfl, ?_⟩
  exact below_then (below_alloc (Below.refl _ _) _) (by simp) hb

set_option maxHeartbeats 2000000 in
theorem keys_Key.yes (k a i m : Int) (s : ByteArray) (w : World) (h : rightB k a i m = true) (hs : keys_bytes.f 40 (fmark k) [⟨a, fa k⟩, ⟨i, fi k⟩, ⟨m, fl k⟩] = some s) (wi : 0 ≤ i ∧ i ≤ 65535) :
    Calls Try.prog 9 #[.agg #[.int .i64 k, .int .u32 a, .int .u16 i, .int .u32 m]] w fun e w' => e = .returned (.tuple #[.string s, .int .i64 0]) ∧ Below w.heap.size w w' := by
  have hk := right_kind h
  have HR := right_calls k a i m
  rw [h] at HR
  have HR' := Aside0.mk HR
  have HS := Aside0.mk hs
  have HK := Aside0.mk hk
  clear HR h hs hk
  have hu25 := Try.underlying25
  have hu40 := Try.underlying40
  go_enter Try.func9, Try.ntmps9
  go_upto_region 3 with (go_at_call 13; refine (HR'.out _).mono ?_; rintro e w1 ⟨rfl, hb⟩)
  go_cut [4] (fun v4 wx => ∃ g : Nat, v4 = .pointer (some ⟨g, 0, none⟩) ∧ wx.heap[g]? = some (.cells #[.int .u8 (fmark k), .int .i64 (fa k), .int .i64 (fi k), .int .i64 (fl k)] 40 (0, 0)) ∧ wx.heap[w.heap.size]? = some (.cells #[.int .i64 k, .int .u32 a, .int .u16 i, .int .u32 m] 25 (0, 0)) ∧ Below w.heap.size w wx)
  case first =>
    have hbox : w1.heap[w.heap.size]? = some (.cells #[.int .i64 k, .int .u32 a, .int .u16 i, .int .u32 m] 25 (0, 0)) := (hb.block _ (by simp)).trans (MapKept.heap_alloc w _).1
    have hb0 : Below w.heap.size w w1 := below_then (below_alloc (Below.refl _ _) _) (by simp) hb
    have hlt : w.heap.size < w1.heap.size := by have := hb.size; simp at this; omega
    have l1 : (Instr.lookup 41 (.map (some w1.heap.size)) (.int .i64 k) false).run Try.prog (w1.alloc (.map formsE 6)).drew = .ok (formV (fmark k) (fa k) (fi k) (fl k)) (w1.alloc (.map formsE 6)).drew := run_lookup_forms (W := (w1.alloc (.map formsE 6)).drew) (b := w1.heap.size) (MapKept.heap_alloc w1 _).1 k HK.out.1 HK.out.2
    have hz : ((w1.alloc (.map formsE 6)).alloc (.cells #[.int .u8 0, .int .i64 0, .int .i64 0, .int .i64 0] 40)).heap[w1.heap.size]? = some (.map formsE 6) := ((MapKept.heap_alloc _ _).2 _ (by simp)).trans (MapKept.heap_alloc w1 _).1
    have l2 := run_lookup_forms (W := ((w1.alloc (.map formsE 6)).alloc (.cells #[.int .u8 0, .int .i64 0, .int .i64 0, .int .i64 0] 40)).drew) (b := w1.heap.size) hz k HK.out.1 HK.out.2
    have hz3 : ((w1.alloc (.cells #[.int .u8 0, .int .i64 0, .int .i64 0, .int .i64 0] 40)).alloc (.map formsE 6)).heap[w1.heap.size + 1]? = some (.map formsE 6) := by
      have := (MapKept.heap_alloc (w1.alloc (.cells #[.int .u8 0, .int .i64 0, .int .i64 0, .int .i64 0] 40)) (.map formsE 6)).1
      simpa using this
    have l3 := run_lookup_forms (W := ((w1.alloc (.cells #[.int .u8 0, .int .i64 0, .int .i64 0, .int .i64 0] 40)).alloc (.map formsE 6)).drew) (b := w1.heap.size + 1) hz3 k HK.out.1 HK.out.2
    clear hz hz3
    have hc0 : w1.cell? ⟨w.heap.size, 0, none⟩ = some (.int .i64 k) := (blk_cell hbox 0).trans rfl
    have HF := Aside0.mk forms_calls'
    clear hb
    go_region_with (go_at_call 17; refine (HF.out _).mono ?_; rintro e w2 ⟨rfl, rfl⟩)
    all_goals (go_wp2_with fail; go_meet)
    all_goals first
      | exact ⟨_, rfl, alloc2_new _ _ _, alloc_old _ (alloc_old _ hbox), below_drew1 (below_alloc (below_alloc hb0 _) _)⟩
      | exact ⟨_, rfl, alloc2_fst _ _ _, alloc_old _ (alloc_old _ hbox), below_drew1 (below_alloc (below_alloc hb0 _) _)⟩
  case rest =>
    obtain ⟨g, rfl, h0, h1, h2⟩ := hcut
    have c0 : wc.cell? ⟨g, 0, none⟩ = some (.int .u8 (fmark k)) := (blk_cell h0 0).trans rfl
    have c1 : wc.cell? ⟨g, 1, none⟩ = some (.int .i64 (fa k)) := (blk_cell h0 1).trans rfl
    have c2 : wc.cell? ⟨g, 2, none⟩ = some (.int .i64 (fi k)) := (blk_cell h0 2).trans rfl
    have c3 : wc.cell? ⟨g, 3, none⟩ = some (.int .i64 (fl k)) := (blk_cell h0 3).trans rfl
    have d1 : wc.cell? ⟨w.heap.size, 1, none⟩ = some (.int .u32 a) := (blk_cell h1 1).trans rfl
    have d2 : wc.cell? ⟨w.heap.size, 2, none⟩ = some (.int .u16 i) := (blk_cell h1 2).trans rfl
    have d3 : wc.cell? ⟨w.heap.size, 3, none⟩ = some (.int .u32 m) := (blk_cell h1 3).trans rfl
    have HB := Aside0.mk h2
    clear h2 h0 h1
    have wi1 := wi.1
    have wi2 := wi.2
    go_wp2_with fail
    have hr1 : Kd.C k45 (wc.alloc (.cells #[.int .u32 a, .int .i64 (fa k), .int .u32 i, .int .i64 (fi k), .int .u32 m, .int .i64 (fl k)] 45)) (some ⟨wc.heap.size, 0, none⟩) 3 [⟨a, fa k⟩, ⟨i, fi k⟩, ⟨m, fl k⟩] :=
      C_of_block k45 (fun x => [.int .u32 x.f0, .int .i64 x.f1]) (MapKept.heap_alloc wc _).1 [⟨a, fa k⟩, ⟨i, fi k⟩, ⟨m, fl k⟩] (fun _ => rfl) (fun x => k45_mk _ x) rfl (by simp)
    refine (keys_bytes.calls 40 (fmark k) _ 3 [⟨a, fa k⟩, ⟨i, fi k⟩, ⟨m, fl k⟩] s _ hr1 (Nat.le_refl _) HS.out).mono ?_
    rintro e w3 ⟨rfl, hb3⟩
    clear hr1
    go_wp2_with fail
    go_ret2
    exact ⟨rfl, below_then (below_alloc HB.out _) (by have := HB.out.size; simp; omega) hb3⟩

theorem keys_Key.calls (a0_0 : Int) (a0_1 : Int) (a0_2 : Int) (a0_3 : Int) (r1 : ByteArray) (r2 : Int) (w : World) (h : keys_Key.f a0_0 a0_1 a0_2 a0_3 = some (r1, r2)) :
    Calls Try.prog 9 #[.agg #[.int .i64 a0_0, .int .u32 a0_1, .int .u16 a0_2, .int .u32 a0_3]] w fun e w' => e = .returned (.tuple #[.string r1, .int .i64 r2]) ∧ Below w.heap.size w w' := by
  unfold keys_Key.f at h
  by_cases hi : 65535 < a0_2 ∨ a0_2 < 0
  · rw [if_pos hi] at h
    cases h
  · rw [if_neg hi] at h
    cases hr : rightB a0_0 a0_1 a0_2 a0_3 with
    | false =>
      rw [hr, if_neg (by simp)] at h
      cases h
      exact keys_Key.no _ _ _ _ w hr
    | true =>
      rw [hr, if_pos rfl] at h
      cases hs : keys_bytes.f 40 (fmark a0_0) [⟨a0_1, fa a0_0⟩, ⟨a0_2, fi a0_0⟩, ⟨a0_3, fl a0_0⟩] with
      | none => rw [hs] at h; cases h
      | some s =>
        rw [hs] at h
        cases h
        exact keys_Key.yes _ _ _ _ _ w hr hs (by omega)
end Go.Proofs.Ytfncbcbhhddnpaa.K
