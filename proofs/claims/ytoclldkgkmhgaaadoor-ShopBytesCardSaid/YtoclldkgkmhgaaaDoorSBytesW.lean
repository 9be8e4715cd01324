/- The walk of shop.Bytes. -/
import Derived.Test.YtoclldkgkmhgaaaDoorSFields
import Derived.Test.YtoclldkgkmhgaaaDoorKx70
import Derived.Deep.DeepCutAuto
import Derived.Shelf.Abstract
import Derived.Maps.AppendAt
namespace Go.Proofs.YtoclldkgkmhgaaaDoor.K
open Go.RowKit Go.MapKept Go.Proofs.YtoclldkgkmhgaaaDoor.Rng Go.Proofs.YtoclldkgkmhgaaaDoorW.PrintWords Go.Proofs.YtoclldkgkmhgaaaDoorW.PrintLast Go.Proofs.YtoclldkgkmhgaaaDoorW.PrintMore
set_option linter.unusedVariables false
set_option linter.unusedSimpArgs false
attribute [local go_sem] Oper.semAt_some

theorem sfields_calls (w : World) : Calls Tryd.prog 67 #[] w fun e w' => e = .returned (.func (.func 86) #[] #[]) ∧ w' = w := by
  have hmf : ∀ (fn : Fn) (first cap : Array Value) (w : World), (Instr.makeFunc fn first cap).run Tryd.prog w = .ok (.func fn first cap) w := fun _ _ _ _ => rfl
  go_enter Tryd.func67, Tryd.ntmps67
  go_wp2
  go_ret
  exact ⟨rfl, rfl⟩

/-- Byte j of a number. -/
def byteS (n : Int) (j : Nat) : Int := shr .u64 n (8 * (j : Int)) % 256
def bytesS (n : Int) : Nat → List Int
  | 0 => []
  | j + 1 => byteS n j :: bytesS n j
/-- A listing's bytes, of its numbers. -/
def listB (g : Nat → Int) : List Int := bytesS (g 0) 4 ++ bytesS (g 1) 2 ++ bytesS (g 2) 8 ++ bytesS (g 3) 8
def numsB (x0 x1 x2 x3 : Int) (k : Nat) : Int := [IntKind.u64.wrap x0, IntKind.u64.wrap x1, IntKind.u64.wrap x2, IntKind.u64.wrap x3].getD k 0

theorem byteS_eq (n : Int) (j : Nat) (hj : j ≤ 7) : byteS n j = n / 2 ^ (8 * j) % 256 := by
  unfold byteS shr
  have hb : IntKind.u64.bits = 64 := rfl
  have : min (8 * (j : Int)).toNat IntKind.u64.bits = 8 * j := by omega
  rw [this]
theorem numsB_cells (x0 x1 x2 x3 : Int) (k : Nat) (hk : k < 4) : (#[.int .u64 (IntKind.u64.wrap x0), .int .u64 (IntKind.u64.wrap x1), .int .u64 (IntKind.u64.wrap x2), .int .u64 (IntKind.u64.wrap x3)] : Array Value)[k]? = some (.int .u64 (numsB x0 x1 x2 x3 k)) := by
  match k, hk with
  | 0, _ => rfl
  | 1, _ => rfl
  | 2, _ => rfl
  | 3, _ => rfl
theorem listB_at (g : Nat → Int) (k j : Nat) (hk : k < 4) (hj : j < szL k) : (listB g).getD (atL k + j) 0 = byteS (g k) (szL k - 1 - j) := by
  match k, hk with
  | 0, _ =>
    have hj : j < 4 := hj
    match j, hj with
    | 0, _ => rfl
    | 1, _ => rfl
    | 2, _ => rfl
    | 3, _ => rfl
  | 1, _ =>
    have hj : j < 2 := hj
    match j, hj with
    | 0, _ => rfl
    | 1, _ => rfl
  | 2, _ =>
    have hj : j < 8 := hj
    match j, hj with
    | 0, _ => rfl
    | 1, _ => rfl
    | 2, _ => rfl
    | 3, _ => rfl
    | 4, _ => rfl
    | 5, _ => rfl
    | 6, _ => rfl
    | 7, _ => rfl
  | 3, _ =>
    have hj : j < 8 := hj
    match j, hj with
    | 0, _ => rfl
    | 1, _ => rfl
    | 2, _ => rfl
    | 3, _ => rfl
    | 4, _ => rfl
    | 5, _ => rfl
    | 6, _ => rfl
    | 7, _ => rfl
theorem at_next (k : Nat) (hk : k < 4) : atL k + szL k = atL (k + 1) ∧ atL (k + 1) ≤ 22 ∧ szL k ≤ 8 := by
  match k, hk with
  | 0, _ => decide
  | 1, _ => decide
  | 2, _ => decide
  | 3, _ => decide

set_option maxRecDepth 100000 in
set_option maxHeartbeats 4000000 in
theorem shop_Bytes.yes (x0 x1 x2 x3 : Int) (w : World) (hL : Laid w) (hr : shop_Right.f 4 x0 x1 x2 x3 = some true) :
    Calls Tryd.prog 37 #[.agg #[.int .u32 x0, .int .u16 x1, .int .i64 x2, .int .i64 x3]] w fun e w' => e = .returned (.tuple #[.string (strOfNums (listB (numsB x0 x1 x2 x3))), .int .i64 0]) ∧ Below w.heap.size w w' := by
  have HN := Aside0.mk sfields_calls
  have HR := Aside0.mk (fun (V : World) (hb : Below w.heap.size w V) => shop_Right.calls 4 x0 x1 x2 x3 true V (Laid_below hL hb) hr)
  have hu49 := Tryd.underlying49
  have hu25 := Tryd.underlying25
  clear hL hr
  refine calls_of_wp_marks Tryd.func37 rfl ?_
  simp only [Tryd.ntmps37, List.size_toArray, List.length_cons, List.length_nil, Nat.reduceAdd, Nat.reduceSub, Array.replicate_succ, Array.replicate_zero, List.push_toArray, List.append_toArray, List.nil_append, List.cons_append]
  go_wp2_with (first | (go_at_call 67; refine (HN.out _).mono ?_; rintro e w2 ⟨rfl, rfl⟩) | (go_at_call 41; refine (HR.out _ (below_alloc (Below.refl w.heap.size w) _)).mono ?_; rintro e w1 ⟨rfl, hb⟩; have hbox := (hb.block _ (by simp)).trans (MapKept.heap_alloc w _).1; have HB := Aside0.mk (below_then (below_alloc (Below.refl w.heap.size w) _) (by simp) hb); have c0 := (blk_cell hbox 0).trans rfl; have c1 := (blk_cell hbox 1).trans rfl; have c2 := (blk_cell hbox 2).trans rfl; have c3 := (blk_cell hbox 3).trans rfl; have hA := alloc_old (.cells #[.int .u8 0, .int .u8 0, .int .u8 0, .int .u8 0, .int .u8 0, .int .u8 0, .int .u8 0, .int .u8 0, .int .u8 0, .int .u8 0, .int .u8 0, .int .u8 0, .int .u8 0, .int .u8 0, .int .u8 0, .int .u8 0, .int .u8 0, .int .u8 0, .int .u8 0, .int .u8 0, .int .u8 0, .int .u8 0] 84) hbox; have a0 := (blk_cell hA 0).trans rfl; have a1 := (blk_cell hA 1).trans rfl; have a2 := (blk_cell hA 2).trans rfl; have a3 := (blk_cell hA 3).trans rfl; have HX := Aside0.mk hbox; clear hb hbox hA))
  have hO := alloc_old (.cells #[.slice (some ⟨w1.heap.size + 1, 0, none⟩) 4 4] 85) (alloc_old (.cells #[.int .u64 (IntKind.u64.wrap x0), .int .u64 (IntKind.u64.wrap x1), .int .u64 (IntKind.u64.wrap x2), .int .u64 (IntKind.u64.wrap x3)] 63) (MapKept.heap_alloc w1 (.cells #[.int .u8 0, .int .u8 0, .int .u8 0, .int .u8 0, .int .u8 0, .int .u8 0, .int .u8 0, .int .u8 0, .int .u8 0, .int .u8 0, .int .u8 0, .int .u8 0, .int .u8 0, .int .u8 0, .int .u8 0, .int .u8 0, .int .u8 0, .int .u8 0, .int .u8 0, .int .u8 0, .int .u8 0, .int .u8 0] 84)).1)
  have hB := alloc2_fst (w1.alloc (.cells #[.int .u8 0, .int .u8 0, .int .u8 0, .int .u8 0, .int .u8 0, .int .u8 0, .int .u8 0, .int .u8 0, .int .u8 0, .int .u8 0, .int .u8 0, .int .u8 0, .int .u8 0, .int .u8 0, .int .u8 0, .int .u8 0, .int .u8 0, .int .u8 0, .int .u8 0, .int .u8 0, .int .u8 0, .int .u8 0] 84)) (.cells #[.int .u64 (IntKind.u64.wrap x0), .int .u64 (IntKind.u64.wrap x1), .int .u64 (IntKind.u64.wrap x2), .int .u64 (IntKind.u64.wrap x3)] 63) (.cells #[.slice (some ⟨w1.heap.size + 1, 0, none⟩) 4 4] 85)
  have hR := alloc2_new (w1.alloc (.cells #[.int .u8 0, .int .u8 0, .int .u8 0, .int .u8 0, .int .u8 0, .int .u8 0, .int .u8 0, .int .u8 0, .int .u8 0, .int .u8 0, .int .u8 0, .int .u8 0, .int .u8 0, .int .u8 0, .int .u8 0, .int .u8 0, .int .u8 0, .int .u8 0, .int .u8 0, .int .u8 0, .int .u8 0, .int .u8 0] 84)) (.cells #[.int .u64 (IntKind.u64.wrap x0), .int .u64 (IntKind.u64.wrap x1), .int .u64 (IntKind.u64.wrap x2), .int .u64 (IntKind.u64.wrap x3)] 63) (.cells #[.slice (some ⟨w1.heap.size + 1, 0, none⟩) 4 4] 85)
  have hXB := below_alloc (below_alloc (below_alloc HB.out (.cells #[.int .u8 0, .int .u8 0, .int .u8 0, .int .u8 0, .int .u8 0, .int .u8 0, .int .u8 0, .int .u8 0, .int .u8 0, .int .u8 0, .int .u8 0, .int .u8 0, .int .u8 0, .int .u8 0, .int .u8 0, .int .u8 0, .int .u8 0, .int .u8 0, .int .u8 0, .int .u8 0, .int .u8 0, .int .u8 0] 84)) (.cells #[.int .u64 (IntKind.u64.wrap x0), .int .u64 (IntKind.u64.wrap x1), .int .u64 (IntKind.u64.wrap x2), .int .u64 (IntKind.u64.wrap x3)] 63)) (.cells #[.slice (some ⟨w1.heap.size + 1, 0, none⟩) 4 4] 85)
  have hXs : (((w1.alloc (.cells #[.int .u8 0, .int .u8 0, .int .u8 0, .int .u8 0, .int .u8 0, .int .u8 0, .int .u8 0, .int .u8 0, .int .u8 0, .int .u8 0, .int .u8 0, .int .u8 0, .int .u8 0, .int .u8 0, .int .u8 0, .int .u8 0, .int .u8 0, .int .u8 0, .int .u8 0, .int .u8 0, .int .u8 0, .int .u8 0] 84)).alloc (.cells #[.int .u64 (IntKind.u64.wrap x0), .int .u64 (IntKind.u64.wrap x1), .int .u64 (IntKind.u64.wrap x2), .int .u64 (IntKind.u64.wrap x3)] 63)).alloc (.cells #[.slice (some ⟨w1.heap.size + 1, 0, none⟩) 4 4] 85)).heap.size = w1.heap.size + 3 := by simp
  have hle := HB.out.size
  rw [World.size_alloc] at hB hR
  clear a0 a1 a2 a3 HX
  generalize ((w1.alloc (.cells #[.int .u8 0, .int .u8 0, .int .u8 0, .int .u8 0, .int .u8 0, .int .u8 0, .int .u8 0, .int .u8 0, .int .u8 0, .int .u8 0, .int .u8 0, .int .u8 0, .int .u8 0, .int .u8 0, .int .u8 0, .int .u8 0, .int .u8 0, .int .u8 0, .int .u8 0, .int .u8 0, .int .u8 0, .int .u8 0] 84)).alloc (.cells #[.int .u64 (IntKind.u64.wrap x0), .int .u64 (IntKind.u64.wrap x1), .int .u64 (IntKind.u64.wrap x2), .int .u64 (IntKind.u64.wrap x3)] 63)).alloc (.cells #[.slice (some ⟨w1.heap.size + 1, 0, none⟩) 4 4] 85) = X at *
  generalize w1.heap.size = O at *
  have hseq : SeqL Fence.wide 9 Tryd.prog 86 #[] (fun k => #[.int .i64 (atL k : Nat), .int .i64 (szL k : Nat)]) 4 (fun h k => k = h) (fun _ _ => False) X := sfields1 Fence.wide 9 trivial rfl (by omega) X
  have hbase := numsB_cells x0 x1 x2 x3
  obtain ⟨g, hg⟩ : ∃ g, numsB x0 x1 x2 x3 = g := ⟨_, rfl⟩
  rw [hg] at hbase
  obtain ⟨ns, hns⟩ : ∃ ns : Array Value, #[.int .u64 (IntKind.u64.wrap x0), .int .u64 (IntKind.u64.wrap x1), .int .u64 (IntKind.u64.wrap x2), .int .u64 (IntKind.u64.wrap x3)] = ns := ⟨_, rfl⟩
  rw [hns] at hbase hB
  refine wp_rangeFunc_L (w := X) (gf := 86) rfl (enters_of Tryd.func86 (by kernel_rfl) rfl) hseq (Below.refl _ _) (fun _ => rfl) (fun b hb => hb.elim) (fun b hb => by have e : b = X.heap.size + 2 := hb; show b ≠ X.heap.size + 1; omega)
    (fun k W => (∃ cs, W.heap[O]? = some (.cells cs 84 (0, 0)) ∧ cs.size = 22 ∧ Hid (∀ j, j < atL k → cs[j]? = some (.int .u8 ((listB g).getD j 0)))) ∧ W.heap[O + 1]? = some (.cells ns 63 (0, 0)) ∧ (∃ v, W.heap[O + 1 + 1]? = some (.cells #[v] 85 (0, 0)) ∧ (k < 4 → v = .slice (some ⟨O + 1, k, none⟩) (4 - k) (4 - k))) ∧ Below w.heap.size w W)
    (fun _ _ _ => False)
    ?hI ?hIx ?h0 ?hround ?hdone ?hstop
  case hI =>
    rintro k A B ⟨⟨cs, h1, h2, h3⟩, h4, ⟨v, h5, h6⟩, h7⟩ hst
    have hst := hst.mono (Z' := fun b => b = X.heap.size + 1) (fun b _ hb => hb.elim (fun h => h.elim) id)
    exact ⟨⟨cs, hst.at_ h1 (by show O ≠ X.heap.size + 1; omega), h2, h3⟩, hst.at_ h4 (by show O + 1 ≠ X.heap.size + 1; omega), ⟨v, hst.at_ h5 (by show O + 1 + 1 ≠ X.heap.size + 1; omega), h6⟩, h7.trans (hst.below (by have := h7.size; omega) (fun j hj => by show j ≠ X.heap.size + 1; omega))⟩
  case hIx => rintro c k A B h; exact h.elim
  case h0 => exact ⟨⟨_, alloc_old _ (alloc_old _ hO), rfl, (fun j hj => absurd hj (Nat.not_lt_zero _) : ∀ j, j < 0 → _)⟩, alloc_old _ (alloc_old _ hB), ⟨_, alloc_old _ (alloc_old _ hR), fun _ => rfl⟩, below_alloc (below_alloc hXB _) _⟩
  case hstop => rintro c k W _ h; exact h.elim
  case hdone =>
    rintro W ⟨⟨cs, h1, h2, h3⟩, h4, _, h7⟩ hsz hD
    have hcv : (convert 89 9 (.slice (some ⟨O, 0, none⟩) 22 22)).run Tryd.prog W = .ok (.string (strOfNums (listB g))) W := by
      refine run_convert_bytes_arg W 89 5 Tryd.underlying89 Tryd.underlying5 O 0 22 22 (listB g) rfl (fun i hi => ?_) 9 Tryd.underlying9
      rw [Nat.zero_add]
      exact (blk_cell h1 i).trans (h3.out i hi)
    have HB7 := Aside0.mk h7
    have HD := Aside0.mk hD
    have HG := Aside0.mk hg
    have HWS := Lib.hid hsz
    have HX3 := Lib.hid hXs
    have HLE := Lib.hid hle
    clear h1 h2 h3 h4 h7 hD hseq hbase hns hB hR hO hXB hg hXs hle hsz c0 c1 c2 c3 HB
    go_wp2
    try rw [Exit.noGoto_ret]
    refine leave_marked HD.out (v := .tuple #[.string (strOfNums (listB g)), .int .i64 0]) (by simp [results, Tryd.results37, go_sem]) ⟨by rw [HG.out], ?_⟩
    exact HB7.out.trans ((StepZ.putObj (Z := fun b => b = X.heap.size) W (.deferred none) rfl).below (by have := HB7.out.size; omega) (fun k hk => by have := HX3.out; have := HLE.out; omega))
  case hround =>
    intro k W hk hi hsz
    have HX3 := Lib.hid hXs
    have HLE := Lib.hid hle
    have hbk := hbase k hk
    clear hXs hle hseq hbase hns hB hR hO hXB hg c0 c1 c2 c3 HB
    gi_wp2
    refine ⟨StepZ.refl _ _, ?_⟩
    intro Wb hst
    have hXs := HX3.out
    obtain ⟨⟨cs, h1, h2, h3⟩, h4, ⟨v, h5, h6⟩, h7⟩ := hi
    obtain rfl := h6 hk
    replace h1 := hst.at_ h1 (by show O ≠ X.heap.size + 1; omega)
    replace h4 := hst.at_ h4 (by show O + 1 ≠ X.heap.size + 1; omega)
    replace h5 := hst.at_ h5 (by show O + 1 + 1 ≠ X.heap.size + 1; omega)
    have h8 : Below w.heap.size w Wb := h7.trans (hst.below (by have := h7.size; omega) (fun j hj => by have := HLE.out; show j ≠ X.heap.size + 1; omega))
    have hla := fun j hj => listB_at g k j hk hj
    obtain ⟨hn1, hn2, hn3⟩ := at_next k hk
    have HN1 := Lib.hid hn1
    have HLA := Lib.hid hla
    have H8 := Aside0.mk h8
    have HK := Aside0.mk hk
    have cr : Wb.cell? ⟨O + 1 + 1, 0, none⟩ = some (.slice (some ⟨O + 1, k, none⟩) (4 - k) (4 - k)) := (blk_cell h5 0).trans rfl
    have cn : Wb.cell? ⟨O + 1, k, none⟩ = some (.int .u64 (g k)) := (blk_cell h4 k).trans hbk
    have fr : Wb.frozen? ⟨O + 1 + 1, 0, none⟩ = false := blk_frozen h5 0
    have hb22 : atL k + szL k ≤ 22 := by omega
    clear h7 hst h6 h8 hla hn1 hn2 hXs hbk
    generalize hA : atL k = a at *
    generalize hZ : szL k = z at *
    gi_wp2
    obtain ⟨wo, hwo⟩ : ∃ wo : World, wo = Wb := ⟨_, rfl⟩
    gi_loopw [31] (fun i wr => ∃ (j : Nat) (ds : Array Value), j ≤ z ∧ i = .int .i64 j ∧ wr.heap[O]? = some (.cells ds 84 (0, 0)) ∧ ds.size = 22 ∧ Hid (∀ i, i < a + j → ds[i]? = some (.int .u8 ((listB g).getD i 0))) ∧ wr.heap[O + 1 + 1]? = some (.cells #[.slice (some ⟨O + 1, k, none⟩) (4 - k) (4 - k)] 85 (0, 0)) ∧ wr.cell? ⟨O + 1, k, none⟩ = some (.int .u64 (g k)) ∧ Aside0 (StepZ (fun b => b = O) Wb wr))
      (fun i _ => z - (intOf i).toNat)
    case atStart => exact ⟨0, cs, Nat.zero_le _, rfl, h1, h2, h3, h5, cn, ⟨StepZ.refl _ _⟩⟩
    case round =>
      obtain ⟨j, ds, hj, rfl, g1, g2, G3, g5, gn, GS⟩ := hrel
      have gr : wr.cell? ⟨O + 1 + 1, 0, none⟩ = some (.slice (some ⟨O + 1, k, none⟩) (4 - k) (4 - k)) := (blk_cell g5 0).trans rfl
      have gf : wr.frozen? ⟨O + 1 + 1, 0, none⟩ = false := blk_frozen g5 0
      have G5 := Aside0.mk g5
      clear g5
      by_cases hjz : j < z
      · have hv := HLA.out j hjz
        have HV := Lib.hid hv
        clear hv
        have hc : wr.cell? ⟨O, a + j, none⟩ = some (ds[a + j]'(by omega)) := (blk_cell g1 (a + j)).trans (Array.getElem?_eq_getElem (by omega))
        have hf : wr.frozen? ⟨O, a + j, none⟩ = false := blk_frozen g1 (a + j)
        have hto : ((a : Int) + (j : Int)).toNat = a + j := by omega
        gi_wp2
        have hval : g k / 2 ^ (8 * (z - 1 - j)) % 256 = (listB g).getD (a + j) 0 := by rw [HV.out, byteS_eq _ _ (by omega)]
        rw [hval]
        refine ⟨⟨j + 1, ds.setIfInBounds (a + j) (.int .u8 ((listB g).getD (a + j) 0)), by omega, by simp, blk_set g1 _ _, by simp [g2], ?_, (Below.heap_setCell _ _ _ _ (by show O + 1 + 1 ≠ O; omega)).trans G5.out, ?_, ⟨GS.out.trans (StepZ.setCell _ _ rfl)⟩⟩, by simp [intOf]; omega⟩
        · show ∀ i, i < a + (j + 1) → _
          intro i hi
          by_cases e : i = a + j
          · subst e
            exact Array.getElem?_setIfInBounds_self_of_lt (by omega)
          · rw [Array.getElem?_setIfInBounds_ne (by omega)]
            exact G3.out i (by omega)
        · exact (World.cell?_setCell_other _ _ _ _ (by intro h; simp only [Addr.mk.injEq] at h; omega)).trans gn
      · obtain rfl : j = z := by omega
        gi_wp2
        · have ht : 4 - k = 1 := by assumption
          have ST : StepZ (fun b => b = O ∨ b = O + 1 + 1) Wb (wr.setCell ⟨O + 1 + 1, 0, none⟩ (.slice (some ⟨O + 1, k, none⟩) 0 0)) := (GS.out.mono (fun b _ h => .inl h)).trans (StepZ.setCell _ _ (.inr rfl))
          have hxs := HX3.out
          have hle := HLE.out
          have hkk := HK.out
          refine ⟨ST.mono (fun b _ hb => ?_), ⟨ds, (Below.heap_setCell _ _ _ _ (by show O ≠ O + 1 + 1; omega)).trans g1, g2, ?_⟩, ST.at_ h4 (by omega), ⟨.slice (some ⟨O + 1, k, none⟩) 0 0, by simpa using blk_set G5.out 0 (.slice (some ⟨O + 1, k, none⟩) 0 0), fun h => by omega⟩, H8.out.trans (ST.below (by have := H8.out.size; omega) (fun i hi => by omega))⟩
          · show ¬ b = X.heap.size + 2 ∧ ¬ b = X.heap.size ∧ ¬ b = X.heap.size + 1
            omega
          · rw [← HN1.out]
            exact G3
        · have ht : ¬ 4 - k = 1 := by assumption
          have ST : StepZ (fun b => b = O ∨ b = O + 1 + 1) Wb (wr.setCell ⟨O + 1 + 1, 0, none⟩ (.slice (some ⟨O + 1, k + 1, none⟩) (4 - k - 1) (4 - k - 1))) := (GS.out.mono (fun b _ h => .inl h)).trans (StepZ.setCell _ _ (.inr rfl))
          have hxs := HX3.out
          have hle := HLE.out
          have hkk := HK.out
          refine ⟨ST.mono (fun b _ hb => ?_), ⟨ds, (Below.heap_setCell _ _ _ _ (by show O ≠ O + 1 + 1; omega)).trans g1, g2, ?_⟩, ST.at_ h4 (by omega), ⟨.slice (some ⟨O + 1, k + 1, none⟩) (4 - k - 1) (4 - k - 1), by simpa using blk_set G5.out 0 (.slice (some ⟨O + 1, k + 1, none⟩) (4 - k - 1) (4 - k - 1)), fun h => by rw [Nat.sub_sub]⟩, H8.out.trans (ST.below (by have := H8.out.size; omega) (fun i hi => by omega))⟩
          · show ¬ b = X.heap.size + 2 ∧ ¬ b = X.heap.size ∧ ¬ b = X.heap.size + 1
            omega
          · rw [← HN1.out]
            exact G3
end Go.Proofs.YtoclldkgkmhgaaaDoor.K
