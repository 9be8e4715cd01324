/- The contract of keys.kindOf. -/
import Derived.Test.YtfncbcbhhddnpaaKKey
import Derived.Maps.RangeWalk
import Derived.Lib.Hide
namespace Go.Proofs.Ytfncbcbhhddnpaa.K
open Go.RowKit Go.MapKept Go.Proofs.YtfncbcbhhddnpaaW.PrintWords Go.Proofs.YtfncbcbhhddnpaaW.PrintLast Go.Proofs.YtfncbcbhhddnpaaW.PrintMore
set_option linter.unusedVariables false
set_option linter.unusedSimpArgs false

structure Form where
  kind : Int
  mark : Int
  a : Int
  i : Int
  m : Int

def formsL : List Form := [⟨1, 97, 4, 0, 0⟩, ⟨2, 105, 4, 2, 0⟩, ⟨3, 109, 4, 0, 4⟩, ⟨4, 115, 4, 0, 0⟩, ⟨5, 110, 1, 0, 0⟩, ⟨6, 116, 1, 2, 0⟩]

def fits (l : List UInt8) (f : Form) : Bool := !l.isEmpty && ((l.getD 0 0).toNat : Int) == f.mark && (l.length : Int) == 1 + f.a + f.i + f.m
def kindF (l : List UInt8) : Form := (formsL.find? (fits l)).getD ⟨0, 0, 0, 0, 0⟩

theorem kindF_hit {l : List UInt8} {f : Form} (hf : f ∈ formsL) (h : fits l f = true) : kindF l = f := by
  unfold kindF
  unfold fits at h ⊢
  generalize (!l.isEmpty) = ne at *
  generalize ((l.getD 0 0).toNat : Int) = x at *
  generalize (l.length : Int) = y at *
  simp only [Bool.and_eq_true, beq_iff_eq] at h
  obtain ⟨⟨rfl, h1⟩, h2⟩ := h
  simp only [formsL, List.mem_cons, List.not_mem_nil, or_false] at hf
  rcases hf with rfl | rfl | rfl | rfl | rfl | rfl <;> (simp at h1 h2; subst h1 h2; rfl)

theorem kindF_miss {l : List UInt8} (h : ∀ f ∈ formsL, fits l f = false) : kindF l = ⟨0, 0, 0, 0, 0⟩ := by
  unfold kindF
  rw [List.find?_eq_none.2 (fun f hf => by simp [h f hf])]
  rfl

theorem entry_form {e : MapEntry} (h : e ∈ formsE.toList) : ∃ f ∈ formsL, e = ⟨.int .i64 f.kind, formV f.mark f.a f.i f.m, (f.kind - 1).toNat⟩ ∧ (0 ≤ f.a ∧ f.a ≤ 4) ∧ (0 ≤ f.i ∧ f.i ≤ 4) ∧ (0 ≤ f.m ∧ f.m ≤ 4) := by
  simp only [formsE, List.mem_cons, List.not_mem_nil, or_false] at h
  rcases h with rfl | rfl | rfl | rfl | rfl | rfl
  · exact ⟨⟨1, 97, 4, 0, 0⟩, by simp [formsL], rfl, by decide, by decide, by decide⟩
  · exact ⟨⟨2, 105, 4, 2, 0⟩, by simp [formsL], rfl, by decide, by decide, by decide⟩
  · exact ⟨⟨3, 109, 4, 0, 4⟩, by simp [formsL], rfl, by decide, by decide, by decide⟩
  · exact ⟨⟨4, 115, 4, 0, 0⟩, by simp [formsL], rfl, by decide, by decide, by decide⟩
  · exact ⟨⟨5, 110, 1, 0, 0⟩, by simp [formsL], rfl, by decide, by decide, by decide⟩
  · exact ⟨⟨6, 116, 1, 2, 0⟩, by simp [formsL], rfl, by decide, by decide, by decide⟩

theorem form_entry {f : Form} (h : f ∈ formsL) : (⟨.int .i64 f.kind, formV f.mark f.a f.i f.m, (f.kind - 1).toNat⟩ : MapEntry) ∈ formsE.toList ∧ 1 ≤ f.kind ∧ f.kind ≤ 6 := by
  simp only [formsL, List.mem_cons, List.not_mem_nil, or_false] at h
  rcases h with rfl | rfl | rfl | rfl | rfl | rfl <;> simp [formsE]

/-- No entry that has come fits. -/
def Missed (l : List UInt8) (seen : Array Nat) : Prop := ∀ f ∈ formsL, seen.contains (f.kind - 1).toNat = true → fits l f = false

theorem missed_push {l : List UInt8} {seen : Array Nat} {f : Form} (h : Missed l seen) (hf : f ∈ formsL) (hn : fits l f = false) : Missed l (seen.push (f.kind - 1).toNat) := by
  intro g hg hc
  rw [contains_push] at hc
  rw [Bool.or_eq_true] at hc
  rcases hc with hc | hc
  · exact h g hg hc
  · have e : (g.kind - 1).toNat = (f.kind - 1).toNat := by simpa using hc
    have : g = f := by
      simp only [formsL, List.mem_cons, List.not_mem_nil, or_false] at hf hg
      rcases hf with rfl | rfl | rfl | rfl | rfl | rfl <;> rcases hg with rfl | rfl | rfl | rfl | rfl | rfl <;> first | rfl | (simp at e)
    rw [this]
    exact hn

theorem data_nil (s : ByteArray) : s.toList = [] ↔ s.size = 0 := by
  rw [ByteArray.toList_eq]
  constructor
  · intro h
    have := congrArg List.length h
    have e : s.data.toList.length = s.size := by simp
    rw [← e, this]
    rfl
  · intro h
    exact List.eq_nil_of_length_eq_zero (by simpa using h)

theorem fits_eq (s : ByteArray) (f : Form) (h : 0 < s.size) : fits s.data.toList f = (((s[0].toNat : Int) == f.mark) && ((s.size : Int) == 1 + f.a + f.i + f.m)) := by
  have e : s.data.toList.getD 0 0 = s[0] := by
    rw [List.getD_eq_getElem?_getD, List.getElem?_eq_getElem (by simpa using h)]
    rfl
  have e2 : (s.data.toList.length : Int) = s.size := by simp
  have e3 : s.data.toList.isEmpty = false := by
    cases hl : s.data.toList with
    | nil =>
      have e := congrArg List.length hl
      have e5 : s.data.toList.length = s.size := by simp
      have e6 : s.size = 0 := e5.symm.trans e
      omega
    | cons x y => rfl
  unfold fits
  rw [e, e2, e3]
  simp

theorem fits_nil (s : ByteArray) (f : Form) (h : s.size = 0) : fits s.data.toList f = false := by
  have : s.data.toList = [] := List.eq_nil_of_length_eq_zero (by simpa using h)
  rw [this]
  rfl

set_option maxRecDepth 100000 in
set_option maxHeartbeats 2000000 in
theorem kindOf_calls (s : ByteArray) (w : World) (hs : s.size ≤ 1000) :
    Calls Try.prog 20 #[.string s] w fun e w' => e = .returned (.tuple #[.int .i64 (kindF s.data.toList).kind, formV (kindF s.data.toList).mark (kindF s.data.toList).a (kindF s.data.toList).i (kindF s.data.toList).m]) ∧ Below w.heap.size w w' := by
  have HF := Aside0.mk forms_calls'
  have hu40 := Try.underlying40
  have hbm := alloc2_new w (.cells #[.int .u8 0, .int .i64 0, .int .i64 0, .int .i64 0] 40) (.map formsE 6)
  have hrange := run_range_map (P := Try.prog) ((w.alloc (.cells #[.int .u8 0, .int .i64 0, .int .i64 0, .int .i64 0] 40)).alloc (.map formsE 6)) 41 3 40 (w.heap.size + 1) formsE 6 Try.underlying41 hbm
  have HBM := Aside0.mk hbm
  clear hbm
  go_enter Try.func20, Try.ntmps20
  go_wp2_with (go_at_call 17; refine (HF.out _).mono ?_; rintro e w2 ⟨rfl, rfl⟩)
  go_loopw [4] (fun _ wr => ∃ seen : Array Nat, wr.heap[w.heap.size + 1]? = some (.map formsE 6) ∧ wr.heap[w.heap.size + 2]? = some (.mapIter (some (w.heap.size + 1)) 6 seen 6) ∧ wr.heap[w.heap.size]? = some (.cells #[.int .u8 0, .int .i64 0, .int .i64 0, .int .i64 0] 40 (0, 0)) ∧ Missed s.data.toList seen ∧ Below w.heap.size w wr)
    (fun _ wr => wr.rangeLeft (w.heap.size + 1) (w.heap.size + 2))
  case atStart =>
    exact ⟨#[], alloc_old _ HBM.out, by simpa using (MapKept.heap_alloc ((w.alloc (.cells #[.int .u8 0, .int .i64 0, .int .i64 0, .int .i64 0] 40)).alloc (.map formsE 6)) (.mapIter (some (w.heap.size + 1)) 6 #[] 6)).1, alloc_old _ (alloc2_fst _ _ _), (fun f _ h => by simp at h), below_alloc (below_alloc (below_alloc (Below.refl _ _) _) _) _⟩
  case round =>
    clear hrange HBM HF
    obtain ⟨seen, hb, hr, hres, hms, hbel⟩ := hrel
    have hold : ∀ x ∈ formsE.toList, x.born < 6 := by simp [formsE]
    have hnd : (formsE.toList.map (·.born)).Nodup := by simp [formsE]
    have hleft : wr.rangeLeft (w.heap.size + 1) (w.heap.size + 2) = (leftOf formsE seen).size := by simp only [World.rangeLeft, hb, hr]
    rcases run_next_at (P := Try.prog) wr 0 (w.heap.size + 2) (w.heap.size + 1) 6 6 seen formsE 6 hr hb hold (Nat.le_refl _) with ⟨h0, hrun⟩ | ⟨e, he, w1, hal, hrun⟩
    · have hall := all_seen formsE seen h0
      have hmiss : kindF s.data.toList = ⟨0, 0, 0, 0, 0⟩ := kindF_miss (fun f hf => hms f hf (hall _ (form_entry hf).1))
      have HM := Aside0.mk hmiss
      have HB := Aside0.mk hbel
      have c0 : wr.cell? ⟨w.heap.size, 0, none⟩ = some (.int .u8 0) := (blk_cell hres 0).trans rfl
      have c1 : wr.cell? ⟨w.heap.size, 1, none⟩ = some (.int .i64 0) := (blk_cell hres 1).trans rfl
      have c2 : wr.cell? ⟨w.heap.size, 2, none⟩ = some (.int .i64 0) := (blk_cell hres 2).trans rfl
      have c3 : wr.cell? ⟨w.heap.size, 3, none⟩ = some (.int .i64 0) := (blk_cell hres 3).trans rfl
      have f0 := blk_frozen hres 0
      have f1 := blk_frozen hres 1
      have f2 := blk_frozen hres 2
      have f3 := blk_frozen hres 3
      clear hall hmiss hbel hms hold hnd hleft h0 hres hb hr
      go_wp2
      refine bodyPost_ret (v := .tuple #[.int .i64 0, formV 0 0 0 0]) (by simp [results, Try.results20, go_sem, c0, c1, c2, c3, f0, f1, f2, f3]) rfl ⟨by rw [HM.out], ?_⟩
      exact below_set (below_set (below_set (below_set HB.out (Nat.le_refl _)) (Nat.le_refl _)) (Nat.le_refl _)) (Nat.le_refl _)
    · obtain ⟨hmem, hns⟩ := mem_left he
      obtain ⟨f, hf, hef, ha, hi, hm⟩ := entry_form hmem
      have hdrop := left_shrinks formsE seen e he
      have hr1 : w1.heap[w.heap.size + 2]? = some (.mapIter (some (w.heap.size + 1)) 6 seen 6) := by rcases hal with rfl | rfl <;> exact hr
      have hb1 : w1.heap[w.heap.size + 1]? = some (.map formsE 6) := by rcases hal with rfl | rfl <;> exact hb
      have hres1 : w1.heap[w.heap.size]? = some (.cells #[.int .u8 0, .int .i64 0, .int .i64 0, .int .i64 0] 40 (0, 0)) := by rcases hal with rfl | rfl <;> exact hres
      have hbel1 : Below w.heap.size w w1 := by rcases hal with rfl | rfl <;> first | exact hbel | exact hbel.drew
      have hset := heap_set (o' := .mapIter (some (w.heap.size + 1)) 6 (seen.push e.born) 6) hr1
      obtain ⟨W, hW⟩ : ∃ W, ChangeMaps.setBlock w1 (w.heap.size + 2) (.mapIter (some (w.heap.size + 1)) 6 (seen.push e.born) 6) = W := ⟨_, rfl⟩
      have hr2 : W.heap[w.heap.size + 2]? = some (.mapIter (some (w.heap.size + 1)) 6 (seen.push e.born) 6) := by rw [← hW]; exact hset.1
      have hb2 : W.heap[w.heap.size + 1]? = some (.map formsE 6) := by rw [← hW]; exact (hset.2 _ (by omega)).trans hb1
      have hres2 : W.heap[w.heap.size]? = some (.cells #[.int .u8 0, .int .i64 0, .int .i64 0, .int .i64 0] 40 (0, 0)) := by rw [← hW]; exact (hset.2 _ (by omega)).trans hres1
      have hbel2 : Below w.heap.size w W := by
        rw [← hW]
        exact ⟨hbel1.os, hbel1.tape, hbel1.output, by simpa [ChangeMaps.setBlock] using hbel1.size, fun k hk => (hset.2 k (by omega)).trans (hbel1.block k hk)⟩
      rw [hW] at hrun
      have hent := run_entry_at (P := Try.prog) W (w.heap.size + 2) (w.heap.size + 1) 6 seen formsE 6 e hr2 hb2 hmem hnd
      clear hr1 hb1 hres1 hbel1 hset hW hr hb hres hbel hal hold hnd he hmem
      subst hef
      dsimp only at hrun hent hns hdrop hr2
      obtain ⟨a1, a2⟩ := ha
      obtain ⟨i1, i2⟩ := hi
      obtain ⟨m1, m2⟩ := hm
      have hms2 := fun hn => missed_push hms hf hn
      have hrel2 : ∀ (nq : Nat) (c : Obj), fits s.data.toList f = false → ∃ seen : Array Nat, ((W.alloc c).drewN nq).heap[w.heap.size + 1]? = some (.map formsE 6) ∧ ((W.alloc c).drewN nq).heap[w.heap.size + 2]? = some (.mapIter (some (w.heap.size + 1)) 6 seen 6) ∧ ((W.alloc c).drewN nq).heap[w.heap.size]? = some (.cells #[.int .u8 0, .int .i64 0, .int .i64 0, .int .i64 0] 40 (0, 0)) ∧ Missed s.data.toList seen ∧ Below w.heap.size w ((W.alloc c).drewN nq) :=
        fun nq c hn => ⟨_, alloc_old _ hb2, alloc_old _ hr2, alloc_old _ hres2, hms2 hn, pw_below_drewN (below_alloc hbel2 _) _⟩
      have hdrop2 : ∀ (nq : Nat) (c : Obj), ((W.alloc c).drewN nq).rangeLeft (w.heap.size + 1) (w.heap.size + 2) < wr.rangeLeft (w.heap.size + 1) (w.heap.size + 2) := by
        intro nq c
        have k1 : ((W.alloc c).drewN nq).heap[w.heap.size + 1]? = some (.map formsE 6) := alloc_old _ hb2
        have k2 := alloc_old c hr2
        rw [hleft]
        have k2' : ((W.alloc c).drewN nq).heap[w.heap.size + 2]? = _ := k2
        simp only [World.rangeLeft, k1, k2']
        exact hdrop
      have HR := Aside0.mk hrel2
      have HD := Aside0.mk hdrop2
      have HKF := Aside0.mk (kindF_hit hf (l := s.data.toList))
      have HB := Aside0.mk hbel2
      have HRES := Aside0.mk hres2
      have hlt : w.heap.size < W.heap.size := (Array.getElem?_eq_some_iff.1 hres2).1
      have c0 : W.cell? ⟨w.heap.size, 0, none⟩ = some (.int .u8 0) := (blk_cell hres2 0).trans rfl
      have c1 : W.cell? ⟨w.heap.size, 1, none⟩ = some (.int .i64 0) := (blk_cell hres2 1).trans rfl
      have c2 : W.cell? ⟨w.heap.size, 2, none⟩ = some (.int .i64 0) := (blk_cell hres2 2).trans rfl
      have c3 : W.cell? ⟨w.heap.size, 3, none⟩ = some (.int .i64 0) := (blk_cell hres2 3).trans rfl
      have f0 := blk_frozen hres2 0
      have f1 := blk_frozen hres2 1
      have f2 := blk_frozen hres2 2
      have f3 := blk_frozen hres2 3
      clear hrel2 hdrop2 hms2 hms hleft hdrop hns hbel2 hres2 hr2 hb2
      have hu40' := Try.underlying40
      by_cases h0 : s.size = 0
      · have z1 : s.toList = [] := (data_nil s).2 h0
        have z2 : (!s.toList.isEmpty) = false := by rw [z1]; rfl
        have HN := Aside0.mk (fits_nil s f h0)
        clear h0
        go_wp2
        go_quiet (fail)
        go_wp2
        go_roundw
        case rel => exact HR.out _ _ HN.out
        case measure => exact HD.out _ _
      · have hpos : 0 < s.size := by omega
        have z1 : ¬ s.toList = [] := fun h => h0 ((data_nil s).1 h)
        have z2 : (!s.toList.isEmpty) = true := by simpa using z1
        have hfe := fits_eq s f hpos
        by_cases h1 : (s[0].toNat : Int) = f.mark
        · have b1 : ((s[0].toNat : Int) == f.mark) = true := by simpa using h1
          by_cases h2 : (s.size : Int) = 1 + f.a + f.i + f.m
          · have b2 : ((s.size : Int) == 1 + f.a + f.i + f.m) = true := by simpa using h2
            have HK := Aside0.mk (HKF.out (by rw [hfe, b1, b2]; rfl))
            clear hfe h1 h2 HR HD HKF
            go_wp2
            go_quiet (fail)
            go_wp2
            go_region
            all_goals go_wp2
            have hb : ((W.alloc (.cells #[.int .u8 f.mark, .int .i64 f.a, .int .i64 f.i, .int .i64 f.m] 40)).drewN (nq + 1)).heap[w.heap.size]? = some (.cells #[.int .u8 0, .int .i64 0, .int .i64 0, .int .i64 0] 40 (0, 0)) := alloc_old _ HRES.out
            have hB := Aside0.mk (pw_below_drewN (below_alloc HB.out (.cells #[.int .u8 f.mark, .int .i64 f.a, .int .i64 f.i, .int .i64 f.m] 40)) (nq + 1))
            generalize (W.alloc (.cells #[.int .u8 f.mark, .int .i64 f.a, .int .i64 f.i, .int .i64 f.m] 40)).drewN (nq + 1) = V at hb hB ⊢
            have d0 : V.cell? ⟨w.heap.size, 0, none⟩ = some (.int .u8 0) := (blk_cell hb 0).trans rfl
            have d1 : V.cell? ⟨w.heap.size, 1, none⟩ = some (.int .i64 0) := (blk_cell hb 1).trans rfl
            have d2 : V.cell? ⟨w.heap.size, 2, none⟩ = some (.int .i64 0) := (blk_cell hb 2).trans rfl
            have d3 : V.cell? ⟨w.heap.size, 3, none⟩ = some (.int .i64 0) := (blk_cell hb 3).trans rfl
            refine bodyPost_ret (v := .tuple #[.int .i64 f.kind, formV f.mark f.a f.i f.m]) (by simp [results, Try.results20, go_sem, d0, d1, d2, d3]) rfl ⟨by rw [HK.out], ?_⟩
            exact below_set (below_set (below_set (below_set hB.out (Nat.le_refl _)) (Nat.le_refl _)) (Nat.le_refl _)) (Nat.le_refl _)
          · have b2 : ((s.size : Int) == 1 + f.a + f.i + f.m) = false := by simpa using h2
            have HN := Aside0.mk (show fits s.data.toList f = false by rw [hfe, b1, b2]; rfl)
            clear hfe h1 h2
            go_wp2
            go_quiet (fail)
            go_wp2
            go_roundw
            case rel => exact HR.out _ _ HN.out
            case measure => exact HD.out _ _
        · have b1 : ((s[0].toNat : Int) == f.mark) = false := by simpa using h1
          have HN := Aside0.mk (show fits s.data.toList f = false by rw [hfe, b1]; rfl)
          clear hfe h1
          go_wp2
          go_quiet (fail)
          go_wp2
          go_roundw
          case rel => exact HR.out _ _ HN.out
          case measure => exact HD.out _ _
end Go.Proofs.Ytfncbcbhhddnpaa.K
