/- The row of the law ShopBack: printed by rowgen.py (a program of mine) out of its Pure and its walk. -/
import Derived.Test.YtoclldkgkmhgaaaDoorCards
import Derived.Test.YtoclldkgkmhgaaaDoorCG
import Derived.Test.YtoclldkgkmhgaaaDoorSOpenW
import Derived.Test.YtoclldkgkmhgaaaDoorKx73
import Derived.Test.YtoclldkgkmhgaaaDoorPureShopBack
import Derived.Test.YtoclldkgkmhgaaaDoorTie
import Derived.Test.YtoclldkgkmhgaaaDoorMLaid
import Derived.WalkKit
import Derived.ProofKit
import Derived.OpenShut
import Derived.ShutString
import Derived.ChangeOld
import Derived.Below
import Derived.SizedLaws
import Derived.Lib.SmallJoins
import Derived.Deep.DeepHandedRow
import Derived.SevenTiedAt
namespace Go.Proofs.YtoclldkgkmhgaaaDoor.shopBack
open Go.ChangeShapes Go.WideShapes Go.ChangeAt Go.RowKit Go.Joins
open Go.ChangeMaps (open_string shut_string)
set_option linter.unusedVariables false
set_option linter.unusedSimpArgs false
theorem own : ownKnob Tryd.prog.godebug = none := by kernel_rfl
theorem laidOut : laidOutB Tryd.prog = true := by kernel_rfl
theorem laid_met (os : Os) : laidMet Tryd.prog Rows.shopBackRow.laid ((K.laidWorld os).forCall (fun _ _ => 0) ⟨#[], #[.slice none 0 0, .agg #[.int .u32 0, .int .u16 0, .int .i64 0, .int .i64 0], .string ByteArray.empty], []⟩).memory :=
  laidMet_of_run (ps := [.cell 2 0, .cell K.low 0, .cell 1 0, .cell (K.low + 1) 0, .cell 0 0, .cell (K.low + 2) 0]) 8 (by kernel_rfl) (by kernel_rfl) (by kernel_rfl)
theorem reads (os : Os) {H : Type} (enc : TypeId × Value → H) : ∃ places, DataW.whole enc Tryd.prog ((K.laidWorld os).forCall (fun _ _ => 0) ⟨#[], #[.slice none 0 0, .agg #[.int .u32 0, .int .u16 0, .int .i64 0, .int .i64 0], .string ByteArray.empty], []⟩).memory Tryd.f14.params.toList Rows.shopBackSpec.vars false (#[.slice none 0 0, .agg #[.int .u32 0, .int .u16 0, .int .i64 0, .int .i64 0], .string ByteArray.empty] : Array Value).toList 8 = some ([.nil, .agg [.lit (.int .u32 0), .agg [.lit (.int .u16 0), .lit (.int .i64 0)], .lit (.int .i64 0)], .lit (.string [])], [], places) :=
  ⟨[], by kernel_rfl⟩
set_option maxRecDepth 100000 in
theorem lifted (os : Os) (started : os.Started) (H : Type) (enc : TypeId × Value → H) (F : Stop.Interp) :
    ReturnsInHanded {} Tryd.checked os 14 .any ((OpenSpec.ofChange Rows.shopBackSpec).preRow enc Tryd.prog Tryd.f14 Rows.shopBackRow.domain false Rows.shopBackRow.laid) (((OpenSpec.ofChange Rows.shopBackSpec).at F).post enc Tryd.prog Tryd.f14 false true false false) := by
  obtain ⟨places, hx⟩ := reads os enc
  refine returnsInHanded_of_row (C := Tryd.checked) (s := OpenSpec.ofChange Rows.shopBackSpec) own started (by kernel_rfl) Tryd.func14
    (witness_row_at (enc := enc) (C := Tryd.checked) false (K.laidWorld os) #[.slice none 0 0, .agg #[.int .u32 0, .int .u16 0, .int .i64 0, .int .i64 0], .string ByteArray.empty] rfl (by kernel_rfl) (by kernel_rfl) (by kernel_rfl)
      (OpenSpec.preRow_of_cond 8 hx (by kernel_rfl) (fun k hk => by cases hk) (by kernel_rfl) (laid_met os))) ?_
  intro W base args ds gs before hval0 hW hcnd _ hsz0 hLH _ _
  have hL : K.Laid W := K.laid_of hLH
  have hsz : (DataW.weightsEach Tryd.prog (Tryd.f14.params.toList ++ Rows.shopBackSpec.plain.varTypes Tryd.prog) (ds ++ gs)).all (· ≤ reachBytes) = true := hsz0
  have hval : ∀ (j : Nat) t v, Tryd.f14.params[j]? = some t → args[j]? = some v → Value.okWide Tryd.prog W .any base t v := hval0
  have hW' := hW
  obtain ⟨p, q, hA0, hV, rfl, hfz, hnd⟩ := hW
  have hA : DataW.TrodAll enc Tryd.prog W 0 (fun _ => true) true Tryd.f14.params.toList args.toList ds p := hA0
  rw [Tryd.params14] at hA hval hsz
  obtain ⟨v0, vs0, d0, ds0, p0, q0, hargs, rfl, rfl, h0, r0⟩ := trodAll_cons hA
  obtain ⟨v1, vs1, d1, ds1, p1, q1, rfl, rfl, rfl, h1, r1⟩ := trodAll_cons r0
  obtain ⟨v2, vs2, d2, ds2, p2, q2, rfl, rfl, rfl, h2, r2⟩ := trodAll_cons r1
  obtain ⟨rfl, rfl, rfl⟩ := trodAll_nil r2
  obtain rfl : args = #[v0, v1, v2] := by cases args; simp_all
  obtain ⟨rfl, rfl⟩ := trodVars_none hV
  obtain ⟨a0, n0, c0, rfl⟩ := okWide_slice Tryd.underlying39 (hval 0 39 v0 rfl rfl)
  have k0 := h0
  have lt0 : ∀ x ∈ p0, x.block < W.heap.size := by obtain ⟨m, hm⟩ := k0; exact DataW.trod_lt m _ _ _ hm
  obtain ⟨l0, hl0, hC0, hc0⟩ : ∃ l0 : List (K.S25), l0.length = n0 ∧ Go.Proofs.YtoclldkgkmhgaaaDoorW.PrintWords.Kd.C K.k25 W a0 l0.length l0 ∧ l0.length ≤ c0 := by
    obtain ⟨fuel, hf⟩ := h0
    exact K.open_stacks hf
  subst hl0
  have k1 := h1
  have lt1 : ∀ x ∈ p1, x.block < W.heap.size := by obtain ⟨m, hm⟩ := k1; exact DataW.trod_lt m _ _ _ hm
  obtain ⟨a1_0, a1_1, a1_2, a1_3, rfl, w1⟩ := K.open_listingW (hval 1 49 v1 rfl rfl) h1
  obtain ⟨a2, rfl, rfl, rfl, y2⟩ := open_string Tryd.underlying9 (hval 2 9 v2 rfl rfl) h2
  have w2 : a2.size ≤ 140737488351232 := by
    have z := sized_string hsz (j := 2) (t := 9) rfl rfl
    rw [Array.length_toList] at z
    exact z
  clear hA0 hval0 hsz0 hsz
  refine (K.bazaarlaw15_ShopBack.calls 1200 a0 c0 l0 a1_0 a1_1 a1_2 a1_3 a2 true W hL hC0 hc0 (Pure.ShopBack l0 a1_0 a1_1 a1_2 a1_3 a2 w1 w2) rfl).mono fun e W' ⟨he, bel⟩ => ?_
  subst he
  exact ⟨_, rfl, _, _, _, [], _, [], hW', trodAll_mk1 (shut_bool Tryd.underlying4 _), (trodAll_cons_mk (Below.trod laidOut (by kernel_rfl) (of_decide_eq_true (by kernel_rfl)) k0 bel lt0) (trodAll_cons_mk (Below.trod laidOut (by kernel_rfl) (of_decide_eq_true (by kernel_rfl)) k1 bel lt1) (trodAll_cons_mk (shut_string Tryd.underlying9 y2) trodAll_mk0))), rfl, bel.frame _, fun h => by cases h⟩
theorem over : Rows.ShopBackSaid :=
  OpenClaim.holds_of_cond 14 Tryd.f14 rfl rfl rfl rfl rfl rfl rfl ⟨rfl, rfl, rfl, rfl, rfl⟩ rfl rfl rfl rfl rfl (by kernel_rfl) Tryd.func14 (by kernel_rfl)
    (of_decide_eq_true (by kernel_rfl)) (by unfold Func.isWrapper; first | (rw [if_pos (by decide +kernel)]; kernel_rfl) | (rw [if_neg (by decide +kernel)]; exact ⟨rfl, rfl⟩))
    (fun os started H enc _ F => by rw [OpenClaim.pre_eq_preRow]; exact lifted os started H enc F)
set_option maxRecDepth 100000 in
theorem plain (f : FuncId) (fn : Func) (hf : Tryd.pinned.checked.prog.funcNamed Rows.shopBackRow.func = some f) (hfn : Tryd.pinned.checked.prog.funcs[f]? = some fn) :
    true = Tryd.pinned.checked.prog.looks [] ∧ ∀ (j : Nat) t, fn.params[j]? = some t → Tryd.pinned.checked.prog.wantsStandIn t = false := by
  obtain rfl : f = 14 := Option.some.inj ((show Tryd.prog.funcNamed Rows.shopBackRow.func = some 14 by kernel_rfl).symm.trans hf) |>.symm
  obtain rfl : fn = Tryd.f14 := (Option.some.inj (Tryd.func14.symm.trans hfn)).symm
  refine ⟨by kernel_rfl, fun j t ht => ?_⟩
  rw [Tryd.params14] at ht
  have hm := Array.mem_of_getElem? ht
  obtain rfl | rfl | rfl : t = 39 ∨ t = 49 ∨ t = 9 := by simpa using hm
  all_goals first | exact (show Tryd.prog.wantsStandIn 39 = false by kernel_rfl) | exact (show Tryd.prog.wantsStandIn 49 = false by kernel_rfl) | exact (show Tryd.prog.wantsStandIn 9 = false by kernel_rfl)
theorem proved : Rows.ShopBackCardSaid :=
  Claim7.holds_tied_plain_at .later [] _ _ _ _ over (fun _ h => by cases h) (by kernel_rfl) (fun _ h => by cases h) shopBack_row_tie rfl ⟨rfl, rfl⟩ (by kernel_rfl) rfl plain (by kernel_rfl)
#print axioms proved
end Go.Proofs.YtoclldkgkmhgaaaDoor.shopBack
namespace Go.Proofs.YtoclldkgkmhgaaaDoor
/-- The card, under a short name, for the claim. -/
theorem shopBack_holds : Rows.ShopBackCardSaid := shopBack.proved
end Go.Proofs.YtoclldkgkmhgaaaDoor

