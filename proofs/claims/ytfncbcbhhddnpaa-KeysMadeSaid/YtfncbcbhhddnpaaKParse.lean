/- The contract of keys.Parse. -/
import Derived.Test.YtfncbcbhhddnpaaKNums
import Derived.Test.YtfncbcbhhddnpaaKKind
import Derived.Test.YtfncbcbhhddnpaaKOf
import Derived.Deep.DeepCutAuto
import Derived.Shelf.Abstract
import Derived.Maps.AppendAt
namespace Go.Proofs.Ytfncbcbhhddnpaa.K
open Go.RowKit Go.MapKept Go.Proofs.Ytfncbcbhhddnpaa.Rng Go.Proofs.YtfncbcbhhddnpaaW.PrintWords Go.Proofs.YtfncbcbhhddnpaaW.PrintLast Go.Proofs.YtfncbcbhhddnpaaW.PrintMore
set_option linter.unusedVariables false
set_option linter.unusedSimpArgs false
attribute [local go_sem] Oper.semAt_some

theorem numbers_calls (s : ByteArray) (a : Option Addr) (n c : Nat) (w : World) :
    Calls Try.prog 21 #[.string s, .slice a n c] w fun e w' => e = .returned (.func (.func 24) #[] #[.pointer (some ⟨w.heap.size + 1, 0, none⟩), .pointer (some ⟨w.heap.size, 0, none⟩)]) ∧ w' = (w.alloc (.cells #[.string s] 9)).alloc (.cells #[.slice a n c] 59) := by
  have hmf : ∀ (fn : Fn) (first cap : Array Value) (w : World), (Instr.makeFunc fn first cap).run Try.prog w = .ok (.func fn first cap) w := fun _ _ _ _ => rfl
  go_enter Try.func21, Try.ntmps21
  go_wp2
  go_ret
  exact ⟨rfl, rfl⟩

set_option maxRecDepth 100000 in
set_option maxHeartbeats 2000000 in
theorem keys_Parse.no (s : ByteArray) (w : World) (hs : s.size ≤ 1000) (hk : kindF s.data.toList = ⟨0, 0, 0, 0, 0⟩) :
    Calls Try.prog 11 #[.string s] w fun e w' => e = .returned (.tuple #[.agg #[.int .i64 0, .int .u32 0, .int .u16 0, .int .u32 0], .int .i64 100]) ∧ Below w.heap.size w w' := by
  have HK := Aside0.mk hk
  have HC := Aside0.mk (fun w => kindOf_calls s w hs)
  have hu25 := Try.underlying25
  have hu40 := Try.underlying40
  clear hk
  refine calls_of_wp_marks Try.func11 rfl ?_
  simp only [Try.ntmps11, List.size_toArray, List.length_cons, List.length_nil, Nat.reduceAdd, Nat.reduceSub, Array.replicate_succ, Array.replicate_zero, List.push_toArray, List.append_toArray, List.nil_append, List.cons_append]
  go_wp2_with fail
  go_step3
  go_wp2_with (go_at_call 20; refine (HC.out _).mono ?_; rw [HK.out]; rintro e w1 ⟨rfl, hb⟩; have hbox := (hb.block _ (by simp)).trans (MapKept.heap_alloc w _).1; have HB := Aside0.mk (below_then (below_alloc (Below.refl w.heap.size w) _) (by simp) hb); have hbx := alloc_old (.cells #[.int .u8 0, .int .i64 0, .int .i64 0, .int .i64 0] 40) hbox; have c0 := (blk_cell hbx 0).trans rfl; have c1 := (blk_cell hbx 1).trans rfl; have c2 := (blk_cell hbx 2).trans rfl; have c3 := (blk_cell hbx 3).trans rfl; have f0 := blk_frozen hbx 0; have f1 := blk_frozen hbx 1; have f2 := blk_frozen hbx 2; have f3 := blk_frozen hbx 3; clear hb hbox hbx)
  try rw [Exit.noGoto_ret]
  refine leave_plain (v := .tuple #[.agg #[.int .i64 0, .int .u32 0, .int .u16 0, .int .u32 0], .int .i64 100]) (by simp [results, Try.results11, go_sem, c0, c1, c2, c3]) ⟨rfl, ?_⟩
  exact below_set (below_set (below_set (below_set (below_alloc HB.out _) (Nat.le_refl _)) (Nat.le_refl _)) (Nat.le_refl _)) (Nat.le_refl _)

set_option maxRecDepth 100000 in
set_option maxHeartbeats 4000000 in
theorem keys_Parse.yes (s : ByteArray) (w : World) (kd mark : Int) (za zi zm : Nat) (hs : s.size = 1 + za + zi + zm) (hz : za ≤ 4 ∧ zi ≤ 4 ∧ zm ≤ 4) (hk : kindF s.data.toList = ⟨kd, mark, za, zi, zm⟩) (hkd : 1 ≤ kd ∧ kd ≤ 6) (r : Bool)
    (hr : rightB kd (num32 (s.data.toList.drop 1) za) (IntKind.u16.wrap (num32 ((s.data.toList.drop 1).drop za) zi)) (num32 (((s.data.toList.drop 1).drop za).drop zi) zm) = r) :
    Calls Try.prog 11 #[.string s] w fun e w' => e = .returned (if r = true then .tuple #[.agg #[.int .i64 kd, .int .u32 (num32 (s.data.toList.drop 1) za), .int .u16 (IntKind.u16.wrap (num32 ((s.data.toList.drop 1).drop za) zi)), .int .u32 (num32 (((s.data.toList.drop 1).drop za).drop zi) zm)], .int .i64 0] else .tuple #[.agg #[.int .i64 0, .int .u32 0, .int .u16 0, .int .u32 0], .int .i64 100]) ∧ Below w.heap.size w w' := by
  have HK := Aside0.mk hk
  have HC := Aside0.mk (fun w => kindOf_calls s w (by omega))
  have HN := Aside0.mk numbers_calls
  have hu25 := Try.underlying25
  have hu40 := Try.underlying40
  have hk0 : (kd == 0) = false := by simpa using (by omega : ¬ kd = 0)
  have hs1 : (1 : Int) ≤ (s.size : Int) := by omega
  have hs2 : s.size ≤ 13 := by omega
  have HS := Aside0.mk hs
  have HZ := Aside0.mk hz
  have HR := Aside0.mk hr
  clear hk hs hz hr
  refine calls_of_wp_marks Try.func11 rfl ?_
  simp only [Try.ntmps11, List.size_toArray, List.length_cons, List.length_nil, Nat.reduceAdd, Nat.reduceSub, Array.replicate_succ, Array.replicate_zero, List.push_toArray, List.append_toArray, List.nil_append, List.cons_append]
  go_wp2_with fail
  go_step3
  go_wp2_with (go_at_call 20; refine (HC.out _).mono ?_; rw [HK.out]; rintro e w1 ⟨rfl, hb⟩; have hbox := (hb.block _ (by simp)).trans (MapKept.heap_alloc w _).1; have HB := Aside0.mk (below_then (below_alloc (Below.refl w.heap.size w) _) (by simp) hb); have hbx := alloc_old (.cells #[.int .u8 mark, .int .i64 za, .int .i64 zi, .int .i64 zm] 40) hbox; have hby := (MapKept.heap_alloc w1 (.cells #[.int .u8 mark, .int .i64 za, .int .i64 zi, .int .i64 zm] 40)).1; have hlw : w.heap.size < w1.heap.size := Nat.lt_of_lt_of_le (by rw [World.size_alloc]; omega) hb.size; clear hb hbox)
  go_step3
  go_upto_region 5 with (fail)
  have hv1 := alloc_old (.cells #[.slice none 0 0] 50) hbx
  have hv2 := alloc_old (.cells #[.slice none 0 0] 50) hby
  have hv3 := alloc2_new w1 (.cells #[.int .u8 mark, .int .i64 za, .int .i64 zi, .int .i64 zm] 40) (.cells #[.slice none 0 0] 50)
  have hV := Aside0.mk (below_alloc (below_alloc HB.out (.cells #[.int .u8 mark, .int .i64 za, .int .i64 zi, .int .i64 zm] 40)) (.cells #[.slice none 0 0] 50))
  have hle := HB.out.size
  clear hbx hby HB
  generalize hVV : (w1.alloc (.cells #[.int .u8 mark, .int .i64 za, .int .i64 zi, .int .i64 zm] 40)).alloc (.cells #[.slice none 0 0] 50) = V at *
  have hVs : V.heap.size = w1.heap.size + 2 := by rw [← hVV]; simp
  clear hVV
  have c1 : V.cell? ⟨w1.heap.size, 1, none⟩ = some (.int .i64 za) := (blk_cell hv2 1).trans rfl
  have c2 : V.cell? ⟨w1.heap.size, 2, none⟩ = some (.int .i64 zi) := (blk_cell hv2 2).trans rfl
  have c3 : V.cell? ⟨w1.heap.size, 3, none⟩ = some (.int .i64 zm) := (blk_cell hv2 3).trans rfl
  have hVs' := Aside0.mk hVs
  clear hVs hv2
  go_region_held3 (fun w' => w'.cell? ⟨w1.heap.size, 1, none⟩ = some (.int .i64 za) ∧ w'.cell? ⟨w1.heap.size, 2, none⟩ = some (.int .i64 zi) ∧ w'.cell? ⟨w1.heap.size, 3, none⟩ = some (.int .i64 zm)) (first | ((refine ⟨?_, ?_, ?_⟩ <;> repeat (first | assumption | apply cell_drew_old | apply cell_alloc_old)); done) | go_keep)
    (first | (go_at_call 21; refine (HN.out _ _ _ _ _).mono ?_; rintro e w2 ⟨rfl, rfl⟩))
  go_wp2_with fail
  have hX1 := alloc_old (.cells #[.slice (some ⟨V.heap.size, 0, none⟩) 3 3] 59) (alloc_old (.cells #[.string (s.extract 1 s.size)] 9) (alloc_old (.cells #[.int .i64 za, .int .i64 zi, .int .i64 zm] 3) hv1))
  have hX3 := alloc_old (.cells #[.slice (some ⟨V.heap.size, 0, none⟩) 3 3] 59) (alloc_old (.cells #[.string (s.extract 1 s.size)] 9) (alloc_old (.cells #[.int .i64 za, .int .i64 zi, .int .i64 zm] 3) hv3))
  have hXb := alloc_old (.cells #[.slice (some ⟨V.heap.size, 0, none⟩) 3 3] 59) (alloc2_fst V (.cells #[.int .i64 za, .int .i64 zi, .int .i64 zm] 3) (.cells #[.string (s.extract 1 s.size)] 9))
  have hXs := alloc_old (.cells #[.slice (some ⟨V.heap.size, 0, none⟩) 3 3] 59) (alloc2_new V (.cells #[.int .i64 za, .int .i64 zi, .int .i64 zm] 3) (.cells #[.string (s.extract 1 s.size)] 9))
  have hXz := alloc2_new (V.alloc (.cells #[.int .i64 za, .int .i64 zi, .int .i64 zm] 3)) (.cells #[.string (s.extract 1 s.size)] 9) (.cells #[.slice (some ⟨V.heap.size, 0, none⟩) 3 3] 59)
  have hXB := below_alloc (below_alloc (below_alloc hV.out (.cells #[.int .i64 za, .int .i64 zi, .int .i64 zm] 3)) (.cells #[.string (s.extract 1 s.size)] 9)) (.cells #[.slice (some ⟨V.heap.size, 0, none⟩) 3 3] 59)
  have hXsz : (((V.alloc (.cells #[.int .i64 za, .int .i64 zi, .int .i64 zm] 3)).alloc (.cells #[.string (s.extract 1 s.size)] 9)).alloc (.cells #[.slice (some ⟨V.heap.size, 0, none⟩) 3 3] 59)).heap.size = V.heap.size + 3 := by simp
  rw [World.size_alloc] at hXz
  generalize ((V.alloc (.cells #[.int .i64 za, .int .i64 zi, .int .i64 zm] 3)).alloc (.cells #[.string (s.extract 1 s.size)] 9)).alloc (.cells #[.slice (some ⟨V.heap.size, 0, none⟩) 3 3] 59) = X at *
  obtain ⟨nums, hnums⟩ : ∃ nums : Nat → Int, nums = fun k => num32 ((s.extract 1 s.size).data.toList.drop (ahead [za, zi, zm] k)) ([za, zi, zm].getD k 0) := ⟨_, rfl⟩
  have hseq : SeqL Fence.wide 9 Try.prog 24 #[.pointer (some ⟨V.heap.size + 1 + 1, 0, none⟩), .pointer (some ⟨V.heap.size + 1, 0, none⟩)] (fun k => #[.int .u32 (nums k)]) 3 (fun _ k => k = V.heap.size + 1 + 1 ∨ k = V.heap.size + 1 ∨ k = V.heap.size) (fun _ k => k = V.heap.size + 1) X.drew := by
    rw [hnums]
    have h1 := HZ.out
    have h2 := HS.out
    exact numbers1 Fence.wide 9 trivial rfl (by omega) (V.heap.size + 1 + 1) (V.heap.size + 1) V.heap.size 3 [za, zi, zm] (s.extract 1 s.size) X.drew (by simp) (by simp; omega) (by simp; omega) hXz hXs ⟨_, hXb, fun j hj => by
      match j, hj with
      | 0, _ => rfl
      | 1, _ => rfl
      | 2, _ => rfl⟩
  have hVs := hVs'.out
  refine wp_rangeFunc_L (w := X.drew) (gf := 24) rfl (enters_of Try.func24 (by kernel_rfl) rfl) hseq (Below.refl _ _) (fun _ => rfl) (fun b hb => by have e : b = V.heap.size + 1 := hb; show b ≠ X.heap.size ∧ b ≠ X.heap.size + 1; omega) (fun b hb => by have e : b = V.heap.size + 1 + 1 ∨ b = V.heap.size + 1 ∨ b = V.heap.size := hb; show b ≠ X.heap.size + 1; omega)
    (fun k W => k ≤ 2 ∧ (∃ v, W.heap[w1.heap.size + 1]? = some (.cells #[v] 50 (0, 0)) ∧ W.ownsRow (X.heap.size + 2) 22 1 v k ((List.range k).map fun j => .int .u32 (nums j))) ∧ W.heap[w.heap.size]? = some (.cells #[.int .i64 0, .int .u32 0, .int .u16 0, .int .u32 0] 25 (0, 0)) ∧ Below w.heap.size w W)
    (fun c k W => c = .exit 0 ∧ (∃ v, W.heap[w1.heap.size + 1]? = some (.cells #[v] 50 (0, 0)) ∧ W.ownsRow (X.heap.size + 2) 22 1 v 3 ((List.range 3).map fun j => .int .u32 (nums j))) ∧ W.heap[w.heap.size]? = some (.cells #[.int .i64 0, .int .u32 0, .int .u16 0, .int .u32 0] 25 (0, 0)) ∧ Below w.heap.size w W)
    ?hI ?hIx ?h0 ?hround ?hdone ?hstop
  case hI =>
    rintro k A B ⟨hk, ⟨v, hb, ho⟩, hr, hbel⟩ hst
    exact ⟨hk, ⟨v, hst.at_ hb (by show ¬ (w1.heap.size + 1 = V.heap.size + 1 ∨ w1.heap.size + 1 = X.heap.size + 1); omega), own_step ho hst (fun j hj => by show ¬ (j = V.heap.size + 1 ∨ j = X.heap.size + 1); omega)⟩, hst.at_ hr (by show ¬ (w.heap.size = V.heap.size + 1 ∨ w.heap.size = X.heap.size + 1); omega), hbel.trans (hst.below (by have := hbel.size; omega) (fun j hj => by show ¬ (j = V.heap.size + 1 ∨ j = X.heap.size + 1); omega))⟩
  case hIx =>
    rintro c k A B ⟨hk, ⟨v, hb, ho⟩, hr, hbel⟩ hst
    exact ⟨hk, ⟨v, hst.at_ hb (by show ¬ (w1.heap.size + 1 = V.heap.size + 1 ∨ w1.heap.size + 1 = X.heap.size + 1); omega), own_step ho hst (fun j hj => by show ¬ (j = V.heap.size + 1 ∨ j = X.heap.size + 1); omega)⟩, hst.at_ hr (by show ¬ (w.heap.size = V.heap.size + 1 ∨ w.heap.size = X.heap.size + 1); omega), hbel.trans (hst.below (by have := hbel.size; omega) (fun j hj => by show ¬ (j = V.heap.size + 1 ∨ j = X.heap.size + 1); omega))⟩
  case h0 =>
    exact ⟨by omega, ⟨_, alloc_old _ (alloc_old _ hX3), World.ownsRow_nil _ _ _ _⟩, alloc_old _ (alloc_old _ hX1), below_alloc (below_alloc (below_drew1 hXB) _) _⟩
  case hdone => rintro W ⟨h, _⟩; omega
  case hstop =>
    rintro c k W hk ⟨rfl, ⟨v, hb, ho⟩, hr, hbel⟩ hsz hD
    have n2 : w.heap.size < X.heap.size := by omega
    replace hsz : X.heap.size + 2 ≤ W.heap.size := hsz
    have e0 : nums 0 = num32 (s.data.toList.drop 1) za := by
      rw [hnums, ← Lib.extract_to_end]
      rfl
    have e1 : nums 1 = num32 ((s.data.toList.drop 1).drop za) zi := by
      rw [hnums, ← Lib.extract_to_end]
      rfl
    have e2 : nums 2 = num32 (((s.data.toList.drop 1).drop za).drop zi) zm := by
      rw [hnums, ← Lib.extract_to_end, List.drop_drop]
      rfl
    rw [← e0, ← e1, ← e2] at HR
    have HE := Aside0.mk (And.intro e0 (And.intro e1 e2))
    obtain ⟨g, cap, rfl⟩ := ownsRow_succ ho
    have hg0 : W.cell? ⟨g, 0, none⟩ = some (.int .u32 (nums 0)) := (ho.cellAt 0 (by omega)).trans rfl
    have hg1 : W.cell? ⟨g, 1, none⟩ = some (.int .u32 (nums 1)) := (ho.cellAt 1 (by omega)).trans rfl
    have hg2 : W.cell? ⟨g, 2, none⟩ = some (.int .u32 (nums 2)) := (ho.cellAt 2 (by omega)).trans rfl
    have hc6 : W.cell? ⟨w1.heap.size + 1, 0, none⟩ = some (.slice (some ⟨g, 0, none⟩) 3 cap) := (blk_cell hb 0).trans rfl
    have HRS := Aside0.mk hr
    have HBE := Aside0.mk hbel
    have HD := Aside0.mk hD
    have hltw : w.heap.size < W.heap.size := (Array.getElem?_eq_some_iff.1 hr).1
    clear e0 e1 e2 hnums hVs hVs' hXsz hr hbel hD hb ho hseq HZ HS HC HN HK hV
    generalize nums 0 = n0 at *
    generalize nums 1 = n1 at *
    generalize nums 2 = n2 at *
    have d6 := World.new_ne W _ hc6
    have d0 := World.new_ne W _ hg0
    have d1 := World.new_ne W _ hg1
    have d2 := World.new_ne W _ hg2
    go_wp2
    go_region_held3 (fun w' => w'.cell? ⟨g, 0, none⟩ = some (.int .u32 n0) ∧ w'.cell? ⟨g, 1, none⟩ = some (.int .u32 n1) ∧ w'.cell? ⟨g, 2, none⟩ = some (.int .u32 n2) ∧ w'.cell? ⟨w1.heap.size + 1, 0, none⟩ = some (.slice (some ⟨g, 0, none⟩) 3 cap)) (go_keep) (fail)
    have HRI := Aside0.mk (right_calls kd n0 (IntKind.u16.wrap n1) n2)
    have hltD : X.heap.size < W.heap.size := by omega
    cases r with
    | true =>
      go_wp2_with (go_at_call 13; refine (HRI.out _).mono ?_; rw [HR.out]; rintro e w3 ⟨rfl, hb3⟩; have hp3 := (hb3.block W.heap.size (by simp; try omega)).trans (alloc2_fst W _ _); have hr3 := (hb3.block w.heap.size (by simp; omega)).trans (alloc_old _ (alloc_old _ HRS.out)); have hD3 := Aside0.mk ((hb3.block X.heap.size (by simp; omega)).trans (alloc_old _ (alloc_old _ HD.out))); have hB3 := Aside0.mk (below_step (below_drew1 (below_alloc (below_alloc HBE.out _) _)) hb3); have q0 := (blk_cell hr3 0).trans rfl; have q1 := (blk_cell hr3 1).trans rfl; have q2 := (blk_cell hr3 2).trans rfl; have q3 := (blk_cell hr3 3).trans rfl; have f0 := blk_frozen hr3 0; have f1 := blk_frozen hr3 1; have f2 := blk_frozen hr3 2; have f3 := blk_frozen hr3 3; have p0 := (blk_cell hp3 0).trans rfl; have p1 := (blk_cell hp3 1).trans rfl; have p2 := (blk_cell hp3 2).trans rfl; have p3 := (blk_cell hp3 3).trans rfl; have HR3 := Aside0.mk hr3; clear hb3 hp3 hr3)
      try rw [Exit.noGoto_ret]
      have hDD : ((((w3.setCell ⟨w.heap.size, 0, none⟩ (.int .i64 kd)).setCell ⟨w.heap.size, 1, none⟩ (.int .u32 n0)).setCell ⟨w.heap.size, 2, none⟩ (.int .u16 (IntKind.u16.wrap n1))).setCell ⟨w.heap.size, 3, none⟩ (.int .u32 n2)).heap[X.heap.size]? = some (.deferred (some [])) := (Below.heap_setCell _ _ _ _ (by show X.heap.size ≠ w.heap.size; omega)).trans ((Below.heap_setCell _ _ _ _ (by show X.heap.size ≠ w.heap.size; omega)).trans ((Below.heap_setCell _ _ _ _ (by show X.heap.size ≠ w.heap.size; omega)).trans ((Below.heap_setCell _ _ _ _ (by show X.heap.size ≠ w.heap.size; omega)).trans hD3.out)))
      have hB4 := below_set (below_set (below_set (below_set hB3.out (Nat.le_refl _) (j := 0) (v := .int .i64 kd)) (Nat.le_refl _) (j := 1) (v := .int .u32 n0)) (Nat.le_refl _) (j := 2) (v := .int .u16 (IntKind.u16.wrap n1))) (Nat.le_refl _) (j := 3) (v := .int .u32 n2)
      have hh : ((((w3.setCell ⟨w.heap.size, 0, none⟩ (.int .i64 kd)).setCell ⟨w.heap.size, 1, none⟩ (.int .u32 n0)).setCell ⟨w.heap.size, 2, none⟩ (.int .u16 (IntKind.u16.wrap n1))).setCell ⟨w.heap.size, 3, none⟩ (.int .u32 n2)).heap[w.heap.size]? = some (.cells #[.int .i64 kd, .int .u32 n0, .int .u16 (IntKind.u16.wrap n1), .int .u32 n2] 25 (0, 0)) := by simpa using blk_set (blk_set (blk_set (blk_set HR3.out 0 (.int .i64 kd)) 1 (.int .u32 n0)) 2 (.int .u16 (IntKind.u16.wrap n1))) 3 (.int .u32 n2)
      generalize (((w3.setCell ⟨w.heap.size, 0, none⟩ (.int .i64 kd)).setCell ⟨w.heap.size, 1, none⟩ (.int .u32 n0)).setCell ⟨w.heap.size, 2, none⟩ (.int .u16 (IntKind.u16.wrap n1))).setCell ⟨w.heap.size, 3, none⟩ (.int .u32 n2) = Y at hDD hB4 hh ⊢
      have hYD : (Y.putObj X.heap.size (.deferred none)).heap[w.heap.size]? = some (.cells #[.int .i64 kd, .int .u32 n0, .int .u16 (IntKind.u16.wrap n1), .int .u32 n2] 25 (0, 0)) := (World.putObj_heap_other (by omega)).trans hh
      have z0 := (blk_cell hYD 0).trans rfl
      have z1 := (blk_cell hYD 1).trans rfl
      have z2 := (blk_cell hYD 2).trans rfl
      have z3 := (blk_cell hYD 3).trans rfl
      refine leave_marked hDD (v := .tuple #[.agg #[.int .i64 kd, .int .u32 n0, .int .u16 (IntKind.u16.wrap n1), .int .u32 n2], .int .i64 0]) (by simp [results, Try.results11, go_sem, z0, z1, z2, z3]) ⟨?_, ?_⟩
      · rw [if_pos rfl, ← HE.out.1, ← HE.out.2.1, ← HE.out.2.2]
      · exact (hB4.trans ((StepZ.putObj (Z := fun b => b = X.heap.size) Y (.deferred none) rfl).below (by have := hB4.size; omega) (fun k hk => by omega)))
    | false =>
      go_wp2_with (go_at_call 13; refine (HRI.out _).mono ?_; rw [HR.out]; rintro e w3 ⟨rfl, hb3⟩; have hp3 := (hb3.block W.heap.size (by simp; try omega)).trans (alloc2_fst W _ _); have hr3 := (hb3.block w.heap.size (by simp; omega)).trans (alloc_old _ (alloc_old _ HRS.out)); have hD3 := Aside0.mk ((hb3.block X.heap.size (by simp; omega)).trans (alloc_old _ (alloc_old _ HD.out))); have hB3 := Aside0.mk (below_step (below_drew1 (below_alloc (below_alloc HBE.out _) _)) hb3); have q0 := (blk_cell hr3 0).trans rfl; have q1 := (blk_cell hr3 1).trans rfl; have q2 := (blk_cell hr3 2).trans rfl; have q3 := (blk_cell hr3 3).trans rfl; have f0 := blk_frozen hr3 0; have f1 := blk_frozen hr3 1; have f2 := blk_frozen hr3 2; have f3 := blk_frozen hr3 3; have p0 := (blk_cell hp3 0).trans rfl; have p1 := (blk_cell hp3 1).trans rfl; have p2 := (blk_cell hp3 2).trans rfl; have p3 := (blk_cell hp3 3).trans rfl; have HR3 := Aside0.mk hr3; clear hb3 hp3 hr3)
      try rw [Exit.noGoto_ret]
      have hDD : ((((w3.setCell ⟨w.heap.size, 0, none⟩ (.int .i64 0)).setCell ⟨w.heap.size, 1, none⟩ (.int .u32 0)).setCell ⟨w.heap.size, 2, none⟩ (.int .u16 0)).setCell ⟨w.heap.size, 3, none⟩ (.int .u32 0)).heap[X.heap.size]? = some (.deferred (some [])) := (Below.heap_setCell _ _ _ _ (by show X.heap.size ≠ w.heap.size; omega)).trans ((Below.heap_setCell _ _ _ _ (by show X.heap.size ≠ w.heap.size; omega)).trans ((Below.heap_setCell _ _ _ _ (by show X.heap.size ≠ w.heap.size; omega)).trans ((Below.heap_setCell _ _ _ _ (by show X.heap.size ≠ w.heap.size; omega)).trans hD3.out)))
      have hB4 := below_set (below_set (below_set (below_set hB3.out (Nat.le_refl _) (j := 0) (v := .int .i64 0)) (Nat.le_refl _) (j := 1) (v := .int .u32 0)) (Nat.le_refl _) (j := 2) (v := .int .u16 0)) (Nat.le_refl _) (j := 3) (v := .int .u32 0)
      have hh : ((((w3.setCell ⟨w.heap.size, 0, none⟩ (.int .i64 0)).setCell ⟨w.heap.size, 1, none⟩ (.int .u32 0)).setCell ⟨w.heap.size, 2, none⟩ (.int .u16 0)).setCell ⟨w.heap.size, 3, none⟩ (.int .u32 0)).heap[w.heap.size]? = some (.cells #[.int .i64 0, .int .u32 0, .int .u16 0, .int .u32 0] 25 (0, 0)) := by simpa using blk_set (blk_set (blk_set (blk_set HR3.out 0 (.int .i64 0)) 1 (.int .u32 0)) 2 (.int .u16 0)) 3 (.int .u32 0)
      generalize (((w3.setCell ⟨w.heap.size, 0, none⟩ (.int .i64 0)).setCell ⟨w.heap.size, 1, none⟩ (.int .u32 0)).setCell ⟨w.heap.size, 2, none⟩ (.int .u16 0)).setCell ⟨w.heap.size, 3, none⟩ (.int .u32 0) = Y at hDD hB4 hh ⊢
      have hYD : (Y.putObj X.heap.size (.deferred none)).heap[w.heap.size]? = some (.cells #[.int .i64 0, .int .u32 0, .int .u16 0, .int .u32 0] 25 (0, 0)) := (World.putObj_heap_other (by omega)).trans hh
      have z0 := (blk_cell hYD 0).trans rfl
      have z1 := (blk_cell hYD 1).trans rfl
      have z2 := (blk_cell hYD 2).trans rfl
      have z3 := (blk_cell hYD 3).trans rfl
      refine leave_marked hDD (v := .tuple #[.agg #[.int .i64 0, .int .u32 0, .int .u16 0, .int .u32 0], .int .i64 100]) (by simp [results, Try.results11, go_sem, z0, z1, z2, z3]) ⟨?_, ?_⟩
      · rw [if_neg (by simp)]
      · exact (hB4.trans ((StepZ.putObj (Z := fun b => b = X.heap.size) Y (.deferred none) rfl).below (by have := hB4.size; omega) (fun k hk => by omega)))
  case hround =>
    intro k W hk hi hsz
    have n1 : w1.heap.size + 1 < X.heap.size := by omega
    have n2 : w.heap.size < X.heap.size := by omega
    have n3 : V.heap.size + 1 + 1 < X.heap.size := by omega
    have n4 : w1.heap.size + 1 < V.heap.size := by omega
    have HNU := Aside0.mk hnums
    clear hnums hVs hXsz hVs' HZ HS HR HC HN HK hV hseq
    gi_wp2
    refine ⟨StepZ.refl _ _, ?_⟩
    intro Wb hst
    obtain ⟨hk2, ⟨v, hbx, hrow⟩, hres, hbel⟩ := hi
    replace hbx := hst.at_ hbx (by show w1.heap.size + 1 ≠ X.heap.size + 1; omega)
    replace hrow := own_step hrow hst (fun k hk => by show k ≠ X.heap.size + 1; omega)
    replace hres := hst.at_ hres (by show w.heap.size ≠ X.heap.size + 1; omega)
    have hbel2 : Below w.heap.size w Wb := hbel.trans (hst.below (by have := hbel.size; omega) (fun k hk => by show k ≠ X.heap.size + 1; omega))
    have hszb : X.heap.size + 2 ≤ Wb.heap.size := Nat.le_trans hsz hst.size
    have HRES := Aside0.mk hres
    have HBEL := Aside0.mk hbel2
    have HBX := Aside0.mk hbx
    have hc6 : Wb.cell? ⟨w1.heap.size + 1, 0, none⟩ = some v := (blk_cell hbx 0).trans rfl
    have hbase : ∀ j, v.ownBlock = some j → X.heap.size + 2 ≤ j := own_base hrow
    have HBASE := Aside0.mk hbase
    obtain ⟨i0, hi, hz0, hz1, hz2⟩ := info_parts info22
    clear hbel hst hsz hres hbel2 hbx hbase
    have hu50 := Try.underlying50
    gi_wp2_with (gi_at_builtin; refine wpListIn_append_own _ rfl _ _ 50 rfl (X.heap.size + 2) 22 i0 (.int .u32 0) 1 4 Try.underlying50 hi hz0 hz1 hz2 rfl (by decide) _ _ _ rfl (hrow.alloc _) ⟨Wb.heap.size, 0, none⟩ 1 1 [.int .u32 (nums k)] rfl rfl (cell_one_new _ _ _) (by simp [Value.oneCell']) (by unfold maxLen; omega) (by omega) (by simp; omega) ?_; intro v' w2 hown' hgrow _; obtain ⟨g', cap', rfl⟩ := ownsRow_succ hown'; have hst2 := StepZ.of_grown (Z := fun b => X.heap.size + 2 ≤ b) hgrow (fun j hj => HBASE.out j hj); have hbx2 := hst2.at_ (alloc_old (.cells #[.int .u32 (nums k)] 22) HBX.out) (by show ¬ X.heap.size + 2 ≤ w1.heap.size + 1; omega); have hf6 := blk_frozen hbx2 0; have hc7 := (blk_cell hbx2 0).trans rfl; have HB2 := Aside0.mk hbx2; have HST := Aside0.mk hst2; have HOWN := Aside0.mk hown'; clear hst2 hbx2 hgrow hown')
    all_goals
      have ST : StepZ (fun b => X.heap.size + 2 ≤ b ∨ b = w1.heap.size + 1) Wb (w2.setCell ⟨w1.heap.size + 1, 0, none⟩ (.slice (some ⟨g', 0, none⟩) (k + 1) cap')) :=
        ((StepZ.alloc _ _ _).trans (HST.out.mono (fun b _ hb => .inl hb))).trans (StepZ.setCell _ _ (.inr rfl))
      have hkeep := ST.mono (Z' := fun b => ¬ ((b = V.heap.size + 1 + 1 ∨ b = V.heap.size + 1 ∨ b = V.heap.size) ∨ b = X.drew.heap.size ∨ b = X.drew.heap.size + 1)) (fun b _ hb => by show ¬ ((b = V.heap.size + 1 + 1 ∨ b = V.heap.size + 1 ∨ b = V.heap.size) ∨ b = X.heap.size ∨ b = X.heap.size + 1); omega)
      have hres3 := ST.at_ HRES.out (by omega)
      have hbel3 : Below w.heap.size w (w2.setCell ⟨w1.heap.size + 1, 0, none⟩ (.slice (some ⟨g', 0, none⟩) (k + 1) cap')) := HBEL.out.trans (ST.below (by have := HBEL.out.size; omega) (fun k hk => by omega))
      have hbx3 : (w2.setCell ⟨w1.heap.size + 1, 0, none⟩ (.slice (some ⟨g', 0, none⟩) (k + 1) cap')).heap[w1.heap.size + 1]? = some (.cells #[.slice (some ⟨g', 0, none⟩) (k + 1) cap'] 50 (0, 0)) := by simpa using blk_set HB2.out 0 (.slice (some ⟨g', 0, none⟩) (k + 1) cap')
      have hown3 := ownsRow_setCell_below HOWN.out (a := ⟨w1.heap.size + 1, 0, none⟩) (by show w1.heap.size + 1 < X.heap.size + 2; omega) (.slice (some ⟨g', 0, none⟩) (k + 1) cap')
      have hl : ((List.range k).map fun j => Value.int .u32 (nums j)) ++ [.int .u32 (nums k)] = (List.range (k + 1)).map fun j => Value.int .u32 (nums j) := by simp [List.range_succ]
      rw [hl] at hown3
    · have ht : ((k : Int) + 1 == 3) = true := by assumption
      have ht2 : ((k : Int) + 1 = 3) := by simpa using ht
      obtain rfl : k = 2 := by omega
      exact ⟨hkeep, rfl, ⟨_, hbx3, hown3⟩, hres3, hbel3⟩
    · have ht : ((k : Int) + 1 == 3) = false := by assumption
      have ht2 : ¬ ((k : Int) + 1 = 3) := by simpa using ht
      exact ⟨hkeep, by omega, ⟨_, hbx3, hown3⟩, hres3, hbel3⟩

/-- The three numbers behind a key's mark, of za, zi, zm bytes. -/
def keyA (l : List UInt8) (za : Nat) : Int := num32 (l.drop 1) za
def keyI (l : List UInt8) (za zi : Nat) : Int := IntKind.u16.wrap (num32 ((l.drop 1).drop za) zi)
def keyM (l : List UInt8) (za zi zm : Nat) : Int := num32 (((l.drop 1).drop za).drop zi) zm

def keys_Parse.f (a0 : ByteArray) : Option (Int × Int × Int × Int × Int) :=
  if 1000 < a0.size then none
  else if (kindF a0.data.toList).kind = 0 then some (0, 0, 0, 0, 100)
  else if rightB (kindF a0.data.toList).kind (keyA a0.data.toList (kindF a0.data.toList).a.toNat) (keyI a0.data.toList (kindF a0.data.toList).a.toNat (kindF a0.data.toList).i.toNat) (keyM a0.data.toList (kindF a0.data.toList).a.toNat (kindF a0.data.toList).i.toNat (kindF a0.data.toList).m.toNat) = true
    then some ((kindF a0.data.toList).kind, keyA a0.data.toList (kindF a0.data.toList).a.toNat, keyI a0.data.toList (kindF a0.data.toList).a.toNat (kindF a0.data.toList).i.toNat, keyM a0.data.toList (kindF a0.data.toList).a.toNat (kindF a0.data.toList).i.toNat (kindF a0.data.toList).m.toNat, 0)
  else some (0, 0, 0, 0, 100)

theorem kindF_cases (l : List UInt8) : kindF l = ⟨0, 0, 0, 0, 0⟩ ∨ ∃ f ∈ formsL, kindF l = f ∧ fits l f = true := by
  cases h : formsL.find? (fits l) with
  | none => left; unfold kindF; rw [h]; rfl
  | some f => right; exact ⟨f, List.mem_of_find?_eq_some h, by unfold kindF; rw [h]; rfl, List.find?_some h⟩

theorem form_nat {f : Form} (h : f ∈ formsL) : ∃ za zi zm : Nat, f.a = za ∧ f.i = zi ∧ f.m = zm ∧ (za ≤ 4 ∧ zi ≤ 4 ∧ zm ≤ 4) ∧ (1 ≤ f.kind ∧ f.kind ≤ 6) := by
  simp only [formsL, List.mem_cons, List.not_mem_nil, or_false] at h
  rcases h with rfl | rfl | rfl | rfl | rfl | rfl
  · exact ⟨4, 0, 0, rfl, rfl, rfl, by omega, by decide⟩
  · exact ⟨4, 2, 0, rfl, rfl, rfl, by omega, by decide⟩
  · exact ⟨4, 0, 4, rfl, rfl, rfl, by omega, by decide⟩
  · exact ⟨4, 0, 0, rfl, rfl, rfl, by omega, by decide⟩
  · exact ⟨1, 0, 0, rfl, rfl, rfl, by omega, by decide⟩
  · exact ⟨1, 2, 0, rfl, rfl, rfl, by omega, by decide⟩

theorem keys_Parse.calls (a0 : ByteArray) (r1 : Int) (r2 : Int) (r3 : Int) (r4 : Int) (r5 : Int) (w : World) (h : keys_Parse.f a0 = some (r1, r2, r3, r4, r5)) :
    Calls Try.prog 11 #[.string a0] w fun e w' => e = .returned (.tuple #[.agg #[.int .i64 r1, .int .u32 r2, .int .u16 r3, .int .u32 r4], .int .i64 r5]) ∧ Below w.heap.size w w' := by
  unfold keys_Parse.f at h
  by_cases hs : 1000 < a0.size
  · rw [if_pos hs] at h; cases h
  · rw [if_neg hs] at h
    rcases kindF_cases a0.data.toList with hk | ⟨f, hf, hk, hfit⟩
    · rw [hk, if_pos rfl] at h
      cases h
      exact keys_Parse.no a0 w (by omega) hk
    · obtain ⟨za, zi, zm, e1, e2, e3, hz, hkd⟩ := form_nat hf
      have hk0 : ¬ f.kind = 0 := by omega
      have hlen : a0.size = 1 + za + zi + zm := by
        unfold fits at hfit
        simp only [Bool.and_eq_true, beq_iff_eq] at hfit
        have e := hfit.2
        rw [e1, e2, e3] at e
        have e5 : a0.data.toList.length = a0.size := by simp
        omega
      rw [hk, if_neg hk0, e1, e2, e3] at h
      simp only [Int.toNat_natCast] at h
      have hk2 : kindF a0.data.toList = ⟨f.kind, f.mark, za, zi, zm⟩ := by rw [hk, ← e1, ← e2, ← e3]
      cases hr : rightB f.kind (keyA a0.data.toList za) (keyI a0.data.toList za zi) (keyM a0.data.toList za zi zm) with
      | true =>
        rw [if_pos hr] at h
        cases h
        exact keys_Parse.yes a0 w f.kind f.mark za zi zm hlen hz hk2 hkd true hr
      | false =>
        rw [if_neg (by rw [hr]; simp)] at h
        cases h
        exact keys_Parse.yes a0 w f.kind f.mark za zi zm hlen hz hk2 hkd false hr
end Go.Proofs.Ytfncbcbhhddnpaa.K
