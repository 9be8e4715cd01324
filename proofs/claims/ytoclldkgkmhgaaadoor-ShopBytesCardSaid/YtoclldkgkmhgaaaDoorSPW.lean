/- shop.Parse at bytes of a listing's length. -/
import Derived.Test.YtoclldkgkmhgaaaDoorSBytesW
import Derived.Test.YtoclldkgkmhgaaaDoorSList
import Derived.Test.YtoclldkgkmhgaaaDoorKx4
namespace Go.Proofs.YtoclldkgkmhgaaaDoor.K
open Go.RowKit Go.MapKept Go.Proofs.YtoclldkgkmhgaaaDoor.Rng Go.Proofs.YtoclldkgkmhgaaaDoorW.PrintWords Go.Proofs.YtoclldkgkmhgaaaDoorW.PrintLast Go.Proofs.YtoclldkgkmhgaaaDoorW.PrintMore
set_option linter.unusedVariables false
set_option linter.unusedSimpArgs false
attribute [local go_sem] Oper.semAt_some

theorem infoU64 : (Tryd.prog.info? 63).map (fun i => (i.zero, i.size, i.bytes)) = some (some (.int .u64 0), 1, 8) := by kernel_rfl
/-- Number k of a listing's bytes. -/
def numsP (s : ByteArray) (k : Nat) : Int := num64 (s.data.toList.drop (atL k)) (szL k)

theorem num_next (s : ByteArray) (a j : Nat) (h : a + j < s.size) : Go.bits .or .u64 (IntKind.u64.wrap (num64 (s.data.toList.drop a) j * 256)) (IntKind.u64.wrap ((s[a + j].toNat : Nat) : Int)) = num64 (s.data.toList.drop a) (j + 1) := by
  rw [num64, List.getD_eq_getElem?_getD, List.getElem?_drop, List.getElem?_eq_getElem (by simpa using h)]
  rfl

attribute [local go_sem high] eqA25 eqA49
set_option maxRecDepth 100000 in
set_option maxHeartbeats 4000000 in
theorem shop_Parse.at22 (s : ByteArray) (w : World) (n0 n1 n2 n3 : Int) (r : Bool) (hL : Laid w) (hs : s.size = 22)
    (he : numsP s 0 % 4294967296 = n0 ∧ IntKind.u16.wrap (numsP s 1) = n1 ∧ wrap64 (numsP s 2) = n2 ∧ wrap64 (numsP s 3) = n3) (hr : listOk n0 n1 n2 n3 = r) :
    Calls Tryd.prog 39 #[.string s] w fun e w' => e = .returned (if r = true then .tuple #[.agg #[.int .u32 n0, .int .u16 n1, .int .i64 n2, .int .i64 n3], .int .i64 0] else .tuple #[.agg #[.int .u32 0, .int .u16 0, .int .i64 0, .int .i64 0], .int .i64 150]) ∧ Below w.heap.size w w' := by
  have d : ((s.size : Int) != 22) = false := by rw [hs]; rfl
  have HS := Aside0.mk hs
  have HN := Aside0.mk sfields_calls
  have HR := Aside0.mk (fun (V : World) (hb : Below w.heap.size w V) => shop_Right.calls 4 n0 n1 n2 n3 r V (Laid_below hL hb) (by rw [shop_ok, hr]))
  have HE := Aside0.mk he
  have HRR := Aside0.mk hr
  have hu49 := Tryd.underlying49
  have hu25 := Tryd.underlying25
  have hc := (blk_cell (alloc_old (.cells #[.int .u32 0, .int .u16 0, .int .i64 0, .int .i64 0] 49) (MapKept.heap_alloc w (.cells #[.string s] 9)).1) 0).trans rfl
  clear hs he hL hr
  refine calls_of_wp_marks Tryd.func39 rfl ?_
  simp only [Tryd.ntmps39, List.size_toArray, List.length_cons, List.length_nil, Nat.reduceAdd, Nat.reduceSub, Array.replicate_succ, Array.replicate_zero, List.push_toArray, List.append_toArray, List.nil_append, List.cons_append]
  go_wp2_with fail
  go_step3
  go_wp2_with fail
  go_step3
  go_wp2_with (go_at_call 67; refine (HN.out _).mono ?_; rintro e w2 ⟨rfl, rfl⟩)
  clear hc
  have hs := alloc_old (.cells #[.slice none 0 0] 85) (alloc_old (.cells #[.int .u32 0, .int .u16 0, .int .i64 0, .int .i64 0] 49) (MapKept.heap_alloc w (.cells #[.string s] 9)).1)
  have hr := alloc_old (.cells #[.slice none 0 0] 85) (MapKept.heap_alloc (w.alloc (.cells #[.string s] 9)) (.cells #[.int .u32 0, .int .u16 0, .int .i64 0, .int .i64 0] 49)).1
  have hl := (MapKept.heap_alloc ((w.alloc (.cells #[.string s] 9)).alloc (.cells #[.int .u32 0, .int .u16 0, .int .i64 0, .int .i64 0] 49)) (.cells #[.slice none 0 0] 85)).1
  have hXB := below_alloc (below_alloc (below_alloc (Below.refl w.heap.size w) (.cells #[.string s] 9)) (.cells #[.int .u32 0, .int .u16 0, .int .i64 0, .int .i64 0] 49)) (.cells #[.slice none 0 0] 85)
  have hXs : (((w.alloc (.cells #[.string s] 9)).alloc (.cells #[.int .u32 0, .int .u16 0, .int .i64 0, .int .i64 0] 49)).alloc (.cells #[.slice none 0 0] 85)).heap.size = w.heap.size + 3 := by simp
  simp only [World.size_alloc] at hs hr hl
  generalize ((w.alloc (.cells #[.string s] 9)).alloc (.cells #[.int .u32 0, .int .u16 0, .int .i64 0, .int .i64 0] 49)).alloc (.cells #[.slice none 0 0] 85) = X at *
  have hseq : SeqL Fence.wide 9 Tryd.prog 86 #[] (fun k => #[.int .i64 (atL k : Nat), .int .i64 (szL k : Nat)]) 4 (fun h k => k = h) (fun _ _ => False) X := sfields1 Fence.wide 9 trivial rfl (by omega) X
  refine wp_rangeFunc_L (w := X) (gf := 86) rfl (enters_of Tryd.func86 (by kernel_rfl) rfl) hseq (Below.refl _ _) (fun _ => rfl) (fun b hb => hb.elim) (fun b hb => by have e : b = X.heap.size + 2 := hb; show b ≠ X.heap.size + 1; omega)
    (fun k W => k ≤ 3 ∧ (∃ v, W.heap[w.heap.size + 1 + 1]? = some (.cells #[v] 85 (0, 0)) ∧ W.ownsRow (X.heap.size + 3) 63 1 v k ((List.range k).map fun j => .int .u64 (numsP s j))) ∧ W.heap[w.heap.size]? = some (.cells #[.string s] 9 (0, 0)) ∧ W.heap[w.heap.size + 1]? = some (.cells #[.int .u32 0, .int .u16 0, .int .i64 0, .int .i64 0] 49 (0, 0)) ∧ Below w.heap.size w W)
    (fun c k W => c = .exit 0 ∧ (∃ v, W.heap[w.heap.size + 1 + 1]? = some (.cells #[v] 85 (0, 0)) ∧ W.ownsRow (X.heap.size + 3) 63 1 v 4 ((List.range 4).map fun j => .int .u64 (numsP s j))) ∧ W.heap[w.heap.size]? = some (.cells #[.string s] 9 (0, 0)) ∧ W.heap[w.heap.size + 1]? = some (.cells #[.int .u32 0, .int .u16 0, .int .i64 0, .int .i64 0] 49 (0, 0)) ∧ Below w.heap.size w W)
    ?hI ?hIx ?h0 ?hround ?hdone ?hstop
  case hI =>
    rintro k A B ⟨h0, ⟨v, h1, h2⟩, h3, h4, h5⟩ hst
    have hst := hst.mono (Z' := fun b => b = X.heap.size + 1) (fun b _ hb => hb.elim (fun h => h.elim) id)
    exact ⟨h0, ⟨v, hst.at_ h1 (by show w.heap.size + 1 + 1 ≠ X.heap.size + 1; omega), own_step h2 hst (fun j hj => by show j ≠ X.heap.size + 1; omega)⟩, hst.at_ h3 (by show w.heap.size ≠ X.heap.size + 1; omega), hst.at_ h4 (by show w.heap.size + 1 ≠ X.heap.size + 1; omega), h5.trans (hst.below (by have := h5.size; omega) (fun j hj => by show j ≠ X.heap.size + 1; omega))⟩
  case hIx =>
    rintro c k A B ⟨h0, ⟨v, h1, h2⟩, h3, h4, h5⟩ hst
    have hst := hst.mono (Z' := fun b => b = X.heap.size + 1) (fun b _ hb => hb.elim (fun h => h.elim) id)
    exact ⟨h0, ⟨v, hst.at_ h1 (by show w.heap.size + 1 + 1 ≠ X.heap.size + 1; omega), own_step h2 hst (fun j hj => by show j ≠ X.heap.size + 1; omega)⟩, hst.at_ h3 (by show w.heap.size ≠ X.heap.size + 1; omega), hst.at_ h4 (by show w.heap.size + 1 ≠ X.heap.size + 1; omega), h5.trans (hst.below (by have := h5.size; omega) (fun j hj => by show j ≠ X.heap.size + 1; omega))⟩
  case h0 => exact ⟨by omega, ⟨_, alloc_old _ (alloc_old _ hl), World.ownsRow_nil _ _ _ _⟩, alloc_old _ (alloc_old _ hs), alloc_old _ (alloc_old _ hr), below_alloc (below_alloc hXB _) _⟩
  case hdone => rintro W ⟨h, _⟩; omega
  case hstop =>
    rintro c k W hk ⟨rfl, ⟨v, h1, h2⟩, h3, h4, h5⟩ hsz hD
    obtain ⟨g, cap, rfl⟩ := ownsRow_succ h2
    have hg0 : W.cell? ⟨g, 0, none⟩ = some (.int .u64 (numsP s 0)) := (h2.cellAt 0 (by omega)).trans rfl
    have hg1 : W.cell? ⟨g, 1, none⟩ = some (.int .u64 (numsP s 1)) := (h2.cellAt 1 (by omega)).trans rfl
    have hg2 : W.cell? ⟨g, 2, none⟩ = some (.int .u64 (numsP s 2)) := (h2.cellAt 2 (by omega)).trans rfl
    have hg3 : W.cell? ⟨g, 3, none⟩ = some (.int .u64 (numsP s 3)) := (h2.cellAt 3 (by omega)).trans rfl
    have hc6 : W.cell? ⟨w.heap.size + 1 + 1, 0, none⟩ = some (.slice (some ⟨g, 0, none⟩) 4 cap) := (blk_cell h1 0).trans rfl
    have HX3 := Lib.hid hXs
    have H4 := Aside0.mk h4
    have H5 := Aside0.mk h5
    have HD := Aside0.mk hD
    have HWS := Lib.hid hsz
    have hltw : w.heap.size + 1 < W.heap.size := (Array.getElem?_eq_some_iff.1 h4).1
    have hltX : X.heap.size < W.heap.size := (Array.getElem?_eq_some_iff.1 hD).1
    clear h1 h2 h3 h4 h5 hsz hD hXs hseq hXB hr hl hs HN HS
    have d6 := World.new_ne W _ hc6
    have d0 := World.new_ne W _ hg0
    have d1 := World.new_ne W _ hg1
    have d2 := World.new_ne W _ hg2
    have d3 := World.new_ne W _ hg3
    go_wp2
    go_region_held3 (fun w' => w'.cell? ⟨g, 0, none⟩ = some (.int .u64 (numsP s 0)) ∧ w'.cell? ⟨g, 1, none⟩ = some (.int .u64 (numsP s 1)) ∧ w'.cell? ⟨g, 2, none⟩ = some (.int .u64 (numsP s 2)) ∧ w'.cell? ⟨g, 3, none⟩ = some (.int .u64 (numsP s 3)) ∧ w'.cell? ⟨w.heap.size + 1 + 1, 0, none⟩ = some (.slice (some ⟨g, 0, none⟩) 4 cap)) (go_keep) (fail)
    rename_i hHeld
    clear hHeld d6 d0 d1 d2 d3 hg0 hg1 hg2 hg3 hc6
    have E0 : IntKind.u32.wrap (numsP s 0) = n0 := by rw [IntKind.wrap_u32]; exact HE.out.1
    have E1 : IntKind.u16.wrap (numsP s 1) = n1 := HE.out.2.1
    have E2 : IntKind.i64.wrap (numsP s 2) = n2 := by rw [i64_w]; exact HE.out.2.2.1
    have E3 : IntKind.i64.wrap (numsP s 3) = n3 := by rw [i64_w]; exact HE.out.2.2.2
    rw [E0, E1, E2, E3]
    clear E0 E1 E2 E3
    have hx := alloc_old (.cells #[.int .u32 0, .int .u16 0, .int .i64 0, .int .i64 0] 49) (MapKept.heap_alloc W (.cells #[.int .u32 n0, .int .u16 n1, .int .i64 n2, .int .i64 n3] 49)).1
    have hz := (MapKept.heap_alloc (W.alloc (.cells #[.int .u32 n0, .int .u16 n1, .int .i64 n2, .int .i64 n3] 49)) (.cells #[.int .u32 0, .int .u16 0, .int .i64 0, .int .i64 0] 49)).1
    have hr := alloc_old (.cells #[.int .u32 0, .int .u16 0, .int .i64 0, .int .i64 0] 49) (alloc_old (.cells #[.int .u32 n0, .int .u16 n1, .int .i64 n2, .int .i64 n3] 49) H4.out)
    have hd := alloc_old (.cells #[.int .u32 0, .int .u16 0, .int .i64 0, .int .i64 0] 49) (alloc_old (.cells #[.int .u32 n0, .int .u16 n1, .int .i64 n2, .int .i64 n3] 49) HD.out)
    have hB := below_alloc (below_alloc H5.out (.cells #[.int .u32 n0, .int .u16 n1, .int .i64 n2, .int .i64 n3] 49)) (.cells #[.int .u32 0, .int .u16 0, .int .i64 0, .int .i64 0] 49)
    rw [World.size_alloc] at hz
    have x0 := (blk_cell hx 0).trans rfl
    have x1 := (blk_cell hx 1).trans rfl
    have x2 := (blk_cell hx 2).trans rfl
    have x3 := (blk_cell hx 3).trans rfl
    have z0 := (blk_cell hz 0).trans rfl
    have z1 := (blk_cell hz 1).trans rfl
    have z2 := (blk_cell hz 2).trans rfl
    have z3 := (blk_cell hz 3).trans rfl
    have p0 := (blk_cell hr 0).trans rfl
    have p1 := (blk_cell hr 1).trans rfl
    have p2 := (blk_cell hr 2).trans rfl
    have p3 := (blk_cell hr 3).trans rfl
    have f0 := blk_frozen hr 0
    have f1 := blk_frozen hr 1
    have f2 := blk_frozen hr 2
    have f3 := blk_frozen hr 3
    have HX := Aside0.mk hx
    have HZ := Aside0.mk hz
    have HRX := Aside0.mk hr
    have HDX := Aside0.mk hd
    have HBX := Aside0.mk hB
    clear hx hz hr hd hB H4 HD H5 HE
    cases r with
    | true =>
      have HN1 : Hid (1 ≤ n0) := Lib.hid (by have h := HRR.out; unfold listOk at h; simp at h; omega)
      clear HRR
      go_wp2_with (go_at_call 41; refine (HR.out _ (by first | exact HBX.out | exact below_drew1 HBX.out)).mono ?_; rintro e w3 ⟨rfl, hb3⟩; have x3_ := keepW hb3 HX.out; have z3_ := keepW hb3 HZ.out; have r3_ := keepW hb3 HRX.out; have D3 := Aside0.mk (keepW hb3 HDX.out); have B3 := Aside0.mk (below_step (by first | exact HBX.out | exact below_drew1 HBX.out) hb3); have x0 := (blk_cell x3_ 0).trans rfl; have x1 := (blk_cell x3_ 1).trans rfl; have x2 := (blk_cell x3_ 2).trans rfl; have x3 := (blk_cell x3_ 3).trans rfl; have z0 := (blk_cell z3_ 0).trans rfl; have z1 := (blk_cell z3_ 1).trans rfl; have z2 := (blk_cell z3_ 2).trans rfl; have z3 := (blk_cell z3_ 3).trans rfl; have p0 := (blk_cell r3_ 0).trans rfl; have p1 := (blk_cell r3_ 1).trans rfl; have p2 := (blk_cell r3_ 2).trans rfl; have p3 := (blk_cell r3_ 3).trans rfl; have f0 := blk_frozen r3_ 0; have f1 := blk_frozen r3_ 1; have f2 := blk_frozen r3_ 2; have f3 := blk_frozen r3_ 3; have R3 := Aside0.mk r3_; clear hb3 x3_ z3_ r3_)
      · rename_i hc
        have h0 : n0 = 0 := by simpa using hc.1
        have h1 := HN1.out
        omega
      · try rw [Exit.noGoto_ret]
        have mE := four_blk R3.out (.int .u32 n0) (.int .u16 n1) (.int .i64 n2) (.int .i64 n3)
        have sE := four_step (w3) (w.heap.size + 1) (.int .u32 n0) (.int .u16 n1) (.int .i64 n2) (.int .i64 n3)
        have hx3 := HX3.out
        have dE := sE.at_ D3.out (by omega)
        have bE := B3.out.trans (sE.below (by have := B3.out.size; omega) (fun i hi => by omega))
        clear sE
        generalize ((((w3.setCell ⟨w.heap.size + 1, 0, none⟩ (.int .u32 n0)).setCell ⟨w.heap.size + 1, 1, none⟩ (.int .u16 n1)).setCell ⟨w.heap.size + 1, 2, none⟩ (.int .i64 n2)).setCell ⟨w.heap.size + 1, 3, none⟩ (.int .i64 n3)) = E at mE dE bE ⊢
        have zE : (E.putObj X.heap.size (.deferred none)).heap[w.heap.size + 1]? = some (.cells #[.int .u32 n0, .int .u16 n1, .int .i64 n2, .int .i64 n3] 49 (0, 0)) := (World.putObj_heap_other (by omega)).trans mE
        have y0 := (blk_cell zE 0).trans rfl
        have y1 := (blk_cell zE 1).trans rfl
        have y2 := (blk_cell zE 2).trans rfl
        have y3 := (blk_cell zE 3).trans rfl
        refine leave_marked dE (v := .tuple #[.agg #[.int .u32 n0, .int .u16 n1, .int .i64 n2, .int .i64 n3], .int .i64 0]) (by simp [results, Tryd.results39, go_sem, y0, y1, y2, y3]) ⟨by rw [if_pos rfl], ?_⟩
        exact bE.trans ((StepZ.putObj (Z := fun b => b = X.heap.size) E (.deferred none) rfl).below (by have := bE.size; omega) (fun k hk => by omega))
      · rename_i hc
        have h1 := HN1.out
        exact absurd (Or.inl (by omega)) hc
    | false =>
      go_wp2_with (go_at_call 41; refine (HR.out _ (by first | exact HBX.out | exact below_drew1 HBX.out)).mono ?_; rintro e w3 ⟨rfl, hb3⟩; have x3_ := keepW hb3 HX.out; have z3_ := keepW hb3 HZ.out; have r3_ := keepW hb3 HRX.out; have D3 := Aside0.mk (keepW hb3 HDX.out); have B3 := Aside0.mk (below_step (by first | exact HBX.out | exact below_drew1 HBX.out) hb3); have x0 := (blk_cell x3_ 0).trans rfl; have x1 := (blk_cell x3_ 1).trans rfl; have x2 := (blk_cell x3_ 2).trans rfl; have x3 := (blk_cell x3_ 3).trans rfl; have z0 := (blk_cell z3_ 0).trans rfl; have z1 := (blk_cell z3_ 1).trans rfl; have z2 := (blk_cell z3_ 2).trans rfl; have z3 := (blk_cell z3_ 3).trans rfl; have p0 := (blk_cell r3_ 0).trans rfl; have p1 := (blk_cell r3_ 1).trans rfl; have p2 := (blk_cell r3_ 2).trans rfl; have p3 := (blk_cell r3_ 3).trans rfl; have f0 := blk_frozen r3_ 0; have f1 := blk_frozen r3_ 1; have f2 := blk_frozen r3_ 2; have f3 := blk_frozen r3_ 3; have R3 := Aside0.mk r3_; clear hb3 x3_ z3_ r3_)
      · try rw [Exit.noGoto_ret]
        have mE := four_blk R3.out (.int .u32 0) (.int .u16 0) (.int .i64 0) (.int .i64 0)
        have sE := four_step (w3) (w.heap.size + 1) (.int .u32 0) (.int .u16 0) (.int .i64 0) (.int .i64 0)
        have hx3 := HX3.out
        have dE := sE.at_ D3.out (by omega)
        have bE := B3.out.trans (sE.below (by have := B3.out.size; omega) (fun i hi => by omega))
        clear sE
        generalize ((((w3.setCell ⟨w.heap.size + 1, 0, none⟩ (.int .u32 0)).setCell ⟨w.heap.size + 1, 1, none⟩ (.int .u16 0)).setCell ⟨w.heap.size + 1, 2, none⟩ (.int .i64 0)).setCell ⟨w.heap.size + 1, 3, none⟩ (.int .i64 0)) = E at mE dE bE ⊢
        have zE : (E.putObj X.heap.size (.deferred none)).heap[w.heap.size + 1]? = some (.cells #[.int .u32 0, .int .u16 0, .int .i64 0, .int .i64 0] 49 (0, 0)) := (World.putObj_heap_other (by omega)).trans mE
        have y0 := (blk_cell zE 0).trans rfl
        have y1 := (blk_cell zE 1).trans rfl
        have y2 := (blk_cell zE 2).trans rfl
        have y3 := (blk_cell zE 3).trans rfl
        refine leave_marked dE (v := .tuple #[.agg #[.int .u32 0, .int .u16 0, .int .i64 0, .int .i64 0], .int .i64 150]) (by simp [results, Tryd.results39, go_sem, y0, y1, y2, y3]) ⟨by rw [if_neg (by simp)], ?_⟩
        exact bE.trans ((StepZ.putObj (Z := fun b => b = X.heap.size) E (.deferred none) rfl).below (by have := bE.size; omega) (fun k hk => by omega))
      · try rw [Exit.noGoto_ret]
        have mE := four_blk HRX.out (.int .u32 0) (.int .u16 0) (.int .i64 0) (.int .i64 0)
        have sE := four_step ((W.alloc (.cells #[.int .u32 n0, .int .u16 n1, .int .i64 n2, .int .i64 n3] 49)).alloc (.cells #[.int .u32 0, .int .u16 0, .int .i64 0, .int .i64 0] 49)) (w.heap.size + 1) (.int .u32 0) (.int .u16 0) (.int .i64 0) (.int .i64 0)
        have hx3 := HX3.out
        have dE := sE.at_ HDX.out (by omega)
        have bE := HBX.out.trans (sE.below (by have := HBX.out.size; omega) (fun i hi => by omega))
        clear sE
        generalize ((((((W.alloc (.cells #[.int .u32 n0, .int .u16 n1, .int .i64 n2, .int .i64 n3] 49)).alloc (.cells #[.int .u32 0, .int .u16 0, .int .i64 0, .int .i64 0] 49)).setCell ⟨w.heap.size + 1, 0, none⟩ (.int .u32 0)).setCell ⟨w.heap.size + 1, 1, none⟩ (.int .u16 0)).setCell ⟨w.heap.size + 1, 2, none⟩ (.int .i64 0)).setCell ⟨w.heap.size + 1, 3, none⟩ (.int .i64 0)) = E at mE dE bE ⊢
        have mF : E.drew.heap[w.heap.size + 1]? = _ := mE
        have dF : E.drew.heap[X.heap.size]? = _ := dE
        have bF := below_drew1 bE
        clear mE dE bE
        generalize E.drew = F at mF dF bF ⊢
        have zE : (F.putObj X.heap.size (.deferred none)).heap[w.heap.size + 1]? = some (.cells #[.int .u32 0, .int .u16 0, .int .i64 0, .int .i64 0] 49 (0, 0)) := (World.putObj_heap_other (by omega)).trans mF
        have y0 := (blk_cell zE 0).trans rfl
        have y1 := (blk_cell zE 1).trans rfl
        have y2 := (blk_cell zE 2).trans rfl
        have y3 := (blk_cell zE 3).trans rfl
        refine leave_marked dF (v := .tuple #[.agg #[.int .u32 0, .int .u16 0, .int .i64 0, .int .i64 0], .int .i64 150]) (by simp [results, Tryd.results39, go_sem, y0, y1, y2, y3]) ⟨by rw [if_neg (by simp)], ?_⟩
        exact bF.trans ((StepZ.putObj (Z := fun b => b = X.heap.size) F (.deferred none) rfl).below (by have := bF.size; omega) (fun k hk => by omega))
  case hround =>
    intro k W hk hi hsz
    have HX3 := Lib.hid hXs
    clear hXs hseq hXB hs hr hl HR HN HE HRR
    gi_wp2
    refine ⟨StepZ.refl _ _, ?_⟩
    intro Wb hst
    have hXs := HX3.out
    obtain ⟨hk3, ⟨v, h1, h2⟩, h3, h4, h5⟩ := hi
    replace h1 := hst.at_ h1 (by show w.heap.size + 1 + 1 ≠ X.heap.size + 1; omega)
    replace h2 := own_step h2 hst (fun j hj => by show j ≠ X.heap.size + 1; omega)
    replace h3 := hst.at_ h3 (by show w.heap.size ≠ X.heap.size + 1; omega)
    replace h4 := hst.at_ h4 (by show w.heap.size + 1 ≠ X.heap.size + 1; omega)
    have h7 : Below w.heap.size w Wb := h5.trans (hst.below (by have := h5.size; omega) (fun j hj => by show j ≠ X.heap.size + 1; omega))
    have hszb : X.heap.size + 2 ≤ Wb.heap.size := Nat.le_trans hsz hst.size
    obtain ⟨hn1, hn2, hn3⟩ := at_next k hk
    have hb22 : atL k + szL k ≤ s.size := by have := HS.out; omega
    have hs1000 : s.size ≤ 1000 := by have := HS.out; omega
    have H7 := Aside0.mk h7
    have H3 := Aside0.mk h3
    have H4 := Aside0.mk h4
    have H1 := Aside0.mk h1
    have H2 := Aside0.mk h2
    have HK := Lib.hid hk3
    have HSZ := Lib.hid hszb
    have cs : Wb.cell? ⟨w.heap.size, 0, none⟩ = some (.string s) := (blk_cell h3 0).trans rfl
    have hnum := Lib.hid (show num64 (s.data.toList.drop (atL k)) (szL k) = numsP s k from rfl)
    clear h1 h2 h3 h4 h5 h7 hst hk3 hszb hsz hXs hn1 hn2
    generalize hA : atL k = a at *
    generalize hZ : szL k = z at *
    gi_wp2
    obtain ⟨wo, rfl⟩ : ∃ wo : World, wo = Wb := ⟨_, rfl⟩
    gi_loop [7, 19] (fun n i => ∃ j : Nat, j ≤ z ∧ n = .int .u64 (num64 (s.data.toList.drop a) j) ∧ i = .int .i64 j) (fun _ i => z - (intOf i).toNat)
    case atStart => exact ⟨0, Nat.zero_le _, rfl, rfl⟩
    case round =>
      obtain ⟨j, hj, rfl, rfl⟩ := hrel
      by_cases hjz : j < z
      · have hjs : a + j < s.size := by omega
        have hto : ((a : Int) + (j : Int)).toNat = a + j := by omega
        gi_wp2
        refine ⟨⟨j + 1, by omega, by rw [num_next s a j hjs], by simp⟩, by simp [intOf]; omega⟩
      · obtain rfl : j = z := by omega
        obtain ⟨i0, hi, hz0, hz1, hz2⟩ := info_parts infoU64
        have hc6 : wo.cell? ⟨w.heap.size + 1 + 1, 0, none⟩ = some v := (blk_cell H1.out 0).trans rfl
        have HBASE : Aside0 (∀ j, v.ownBlock = some j → X.heap.size + 3 ≤ j) := ⟨own_base H2.out⟩
        have hu85 := Tryd.underlying85
        gi_wp2_with (gi_at_builtin; refine wpListIn_append_own _ rfl _ _ 85 rfl (X.heap.size + 3) 63 i0 (.int .u64 0) 1 8 Tryd.underlying85 hi hz0 hz1 hz2 rfl (by decide) _ _ _ rfl (H2.out.alloc _) ⟨wo.heap.size, 0, none⟩ 1 1 [.int .u64 (num64 (s.data.toList.drop a) j)] rfl rfl (cell_one_new _ _ _) (by simp [Value.oneCell']) (by unfold maxLen; omega) (by omega) (by have := HSZ.out; simp; omega) ?_; intro v' w2 hown' hgrow _; obtain ⟨g', cap', rfl⟩ := ownsRow_succ hown'; have hst2 := StepZ.of_grown (Z := fun b => X.heap.size + 3 ≤ b) hgrow (fun j hj => HBASE.out j hj); have hbx2 := hst2.at_ (alloc_old (.cells #[.int .u64 (num64 (s.data.toList.drop a) j)] 63) H1.out) (by have := HX3.out; show ¬ X.heap.size + 3 ≤ w.heap.size + 1 + 1; omega); have hf6 := blk_frozen hbx2 0; have hc7 := (blk_cell hbx2 0).trans rfl; have HB2 := Aside0.mk hbx2; have HST := Aside0.mk hst2; have HOWN := Aside0.mk hown'; clear hst2 hbx2 hgrow hown')
        all_goals
          have hx3 := HX3.out
          have ST : StepZ (fun b => X.heap.size + 3 ≤ b ∨ b = w.heap.size + 1 + 1) wo (w2.setCell ⟨w.heap.size + 1 + 1, 0, none⟩ (.slice (some ⟨g', 0, none⟩) (k + 1) cap')) :=
            ((StepZ.alloc _ _ _).trans (HST.out.mono (fun b _ hb => .inl hb))).trans (StepZ.setCell _ _ (.inr rfl))
          have hkeep := ST.mono (Z' := fun b => ¬b = X.heap.size + 2 ∧ ¬b = X.heap.size ∧ ¬b = X.heap.size + 1) (fun b _ hb => by show ¬b = X.heap.size + 2 ∧ ¬b = X.heap.size ∧ ¬b = X.heap.size + 1; omega)
          have hs3 := ST.at_ H3.out (by omega)
          have hr3 := ST.at_ H4.out (by omega)
          have hbel3 := H7.out.trans (ST.below (by have := H7.out.size; omega) (fun i hi => by omega))
          have hbx3 : (w2.setCell ⟨w.heap.size + 1 + 1, 0, none⟩ (.slice (some ⟨g', 0, none⟩) (k + 1) cap')).heap[w.heap.size + 1 + 1]? = some (.cells #[.slice (some ⟨g', 0, none⟩) (k + 1) cap'] 85 (0, 0)) := by simpa using blk_set HB2.out 0 (.slice (some ⟨g', 0, none⟩) (k + 1) cap')
          have hown3 := ownsRow_setCell_below HOWN.out (a := ⟨w.heap.size + 1 + 1, 0, none⟩) (by show w.heap.size + 1 + 1 < X.heap.size + 3; omega) (.slice (some ⟨g', 0, none⟩) (k + 1) cap')
          have hlr : ((List.range k).map fun j => Value.int .u64 (numsP s j)) ++ [.int .u64 (num64 (s.data.toList.drop a) j)] = (List.range (k + 1)).map fun j => Value.int .u64 (numsP s j) := by rw [hnum.out]; simp [List.range_succ]
          rw [hlr] at hown3
        · have ht : ((k : Int) + 1 == 4) = true := by assumption
          have ht2 : ((k : Int) + 1 = 4) := by simpa using ht
          obtain rfl : k = 3 := by omega
          exact ⟨hkeep, rfl, ⟨_, hbx3, hown3⟩, hs3, hr3, hbel3⟩
        · have ht : ((k : Int) + 1 == 4) = false := by assumption
          have ht2 : ¬ ((k : Int) + 1 = 4) := by simpa using ht
          have hk4 := HK.out
          exact ⟨hkeep, by omega, ⟨_, hbx3, hown3⟩, hs3, hr3, hbel3⟩
end Go.Proofs.YtoclldkgkmhgaaaDoor.K
