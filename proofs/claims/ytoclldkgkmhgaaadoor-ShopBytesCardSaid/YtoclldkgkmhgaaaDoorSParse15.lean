/- shop.Parse and shop.Bytes, whole. -/
import Derived.Test.YtoclldkgkmhgaaaDoorSBuy
import Derived.Test.YtoclldkgkmhgaaaDoorSPW
namespace Go.Proofs.YtoclldkgkmhgaaaDoor.K
open Go.RowKit Go.MapKept Go.Proofs.YtoclldkgkmhgaaaDoorW.PrintWords Go.Proofs.YtoclldkgkmhgaaaDoorW.PrintLast Go.Proofs.YtoclldkgkmhgaaaDoorW.PrintMore
set_option linter.unusedVariables false
set_option linter.unusedSimpArgs false

set_option maxRecDepth 100000 in
set_option maxHeartbeats 4000000 in
theorem shop_Parse.no (s : ByteArray) (w : World) (hs : s.size ≠ 22) :
    Calls Tryd.prog 39 #[.string s] w fun e w' => e = .returned (.tuple #[.agg #[.int .u32 0, .int .u16 0, .int .i64 0, .int .i64 0], .int .i64 150]) ∧ Below w.heap.size w w' := by
  have d : ((s.size : Int) != 22) = true := by simpa using (by omega : ¬ (s.size : Int) = 22)
  have hu49 := Tryd.underlying49
  have hz := alloc2_new w (.cells #[.string s] 9) (.cells #[.int .u32 0, .int .u16 0, .int .i64 0, .int .i64 0] 49)
  have y0 := (blk_cell hz 0).trans rfl
  have y1 := (blk_cell hz 1).trans rfl
  have y2 := (blk_cell hz 2).trans rfl
  have y3 := (blk_cell hz 3).trans rfl
  have HB := Aside0.mk (below_two w (.cells #[.string s] 9) (.cells #[.int .u32 0, .int .u16 0, .int .i64 0, .int .i64 0] 49))
  clear hs hz
  go_enter Tryd.func39, Tryd.ntmps39
  go_wp2
  go_step3
  go_wp2_with fail
  rw [Exit.noGoto_ret]
  refine bodyPost_ret (v := .tuple #[.agg #[.int .u32 0, .int .u16 0, .int .i64 0, .int .i64 0], .int .i64 150]) (by simp [results, Tryd.results39, go_sem, y0, y1, y2, y3]) rfl ⟨rfl, HB.out⟩

/-- What shop.Parse tells of bytes of a listing's length. -/
def spF (s : ByteArray) : Int × Int × Int × Int × Int :=
  if listOk (numsP s 0 % 4294967296) (IntKind.u16.wrap (numsP s 1)) (wrap64 (numsP s 2)) (wrap64 (numsP s 3)) = true then (numsP s 0 % 4294967296, IntKind.u16.wrap (numsP s 1), wrap64 (numsP s 2), wrap64 (numsP s 3), 0) else (0, 0, 0, 0, 150)
def shop_Parse.f (a0 : ByteArray) : Option (Int × Int × Int × Int × Int) := if a0.size = 22 then some (spF a0) else some (0, 0, 0, 0, 150)
theorem shop_Parse.calls (a0 : ByteArray) (r1 : Int) (r2 : Int) (r3 : Int) (r4 : Int) (r5 : Int) (w : World) (hL : Laid w) (h : shop_Parse.f a0 = some (r1, r2, r3, r4, r5)) :
    Calls Tryd.prog 39 #[.string a0] w fun e w' => e = .returned (.tuple #[.agg #[.int .u32 r1, .int .u16 r2, .int .i64 r3, .int .i64 r4], .int .i64 r5]) ∧ Below w.heap.size w w' := by
  unfold shop_Parse.f spF at h
  by_cases hs : a0.size = 22
  · rw [if_pos hs] at h
    cases hr : listOk (numsP a0 0 % 4294967296) (IntKind.u16.wrap (numsP a0 1)) (wrap64 (numsP a0 2)) (wrap64 (numsP a0 3)) with
    | true =>
      rw [if_pos hr] at h
      simp only [Option.some.injEq, Prod.mk.injEq] at h
      obtain ⟨rfl, rfl, rfl, rfl, rfl⟩ := h
      exact shop_Parse.at22 a0 w _ _ _ _ true hL hs ⟨rfl, rfl, rfl, rfl⟩ hr
    | false =>
      rw [if_neg (by rw [hr]; simp)] at h
      simp only [Option.some.injEq, Prod.mk.injEq] at h
      obtain ⟨rfl, rfl, rfl, rfl, rfl⟩ := h
      exact shop_Parse.at22 a0 w _ _ _ _ false hL hs ⟨rfl, rfl, rfl, rfl⟩ hr
  · rw [if_neg hs] at h
    simp only [Option.some.injEq, Prod.mk.injEq] at h
    obtain ⟨rfl, rfl, rfl, rfl, rfl⟩ := h
    exact shop_Parse.no a0 w hs

set_option maxRecDepth 100000 in
set_option maxHeartbeats 4000000 in
theorem shop_Bytes.no (x0 x1 x2 x3 : Int) (w : World) (hL : Laid w) (hr : shop_Right.f 4 x0 x1 x2 x3 = some false) :
    Calls Tryd.prog 37 #[.agg #[.int .u32 x0, .int .u16 x1, .int .i64 x2, .int .i64 x3]] w fun e w' => e = .returned (.tuple #[.string ⟨#[]⟩, .int .i64 150]) ∧ Below w.heap.size w w' := by
  have HR := Aside0.mk (fun (V : World) (hb : Below w.heap.size w V) => shop_Right.calls 4 x0 x1 x2 x3 false V (Laid_below hL hb) hr)
  have hu49 := Tryd.underlying49
  have hu25 := Tryd.underlying25
  clear hL hr
  go_enter Tryd.func37, Tryd.ntmps37
  go_wp2_with (go_at_call 41; refine (HR.out _ (below_alloc (Below.refl w.heap.size w) _)).mono ?_; rintro e w1 ⟨rfl, hb⟩; have HB := Aside0.mk (below_then (below_alloc (Below.refl w.heap.size w) _) (by simp) hb); clear hb)
  refine bodyPost_ret (v := .tuple #[.string ⟨#[]⟩, .int .i64 150]) (by simp [results, Tryd.results37, go_sem]) rfl ⟨rfl, HB.out⟩

/-- What shop.Bytes tells. -/
def shop_Bytes.f (x0 x1 x2 x3 : Int) : Option (ByteArray × Int) := if listOk x0 x1 x2 x3 = true then some (strOfNums (listB (numsB x0 x1 x2 x3)), 0) else some (⟨#[]⟩, 150)
theorem shop_Bytes.calls (a0_0 : Int) (a0_1 : Int) (a0_2 : Int) (a0_3 : Int) (r1 : ByteArray) (r2 : Int) (w : World) (hL : Laid w) (h : shop_Bytes.f a0_0 a0_1 a0_2 a0_3 = some (r1, r2)) :
    Calls Tryd.prog 37 #[.agg #[.int .u32 a0_0, .int .u16 a0_1, .int .i64 a0_2, .int .i64 a0_3]] w fun e w' => e = .returned (.tuple #[.string r1, .int .i64 r2]) ∧ Below w.heap.size w w' := by
  unfold shop_Bytes.f at h
  cases hr : listOk a0_0 a0_1 a0_2 a0_3 with
  | true =>
    rw [if_pos hr] at h
    simp only [Option.some.injEq, Prod.mk.injEq] at h
    obtain ⟨rfl, rfl⟩ := h
    exact shop_Bytes.yes a0_0 a0_1 a0_2 a0_3 w hL (by rw [shop_ok, hr])
  | false =>
    rw [if_neg (by rw [hr]; simp)] at h
    simp only [Option.some.injEq, Prod.mk.injEq] at h
    obtain ⟨rfl, rfl⟩ := h
    exact shop_Bytes.no a0_0 a0_1 a0_2 a0_3 w hL (by rw [shop_ok, hr])
end Go.Proofs.YtoclldkgkmhgaaaDoor.K
