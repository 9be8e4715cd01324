/- The contracts of shop.List, shop.Cancel. -/
import Derived.Test.YtoclldkgkmhgaaaDoorCS
import Derived.Test.YtoclldkgkmhgaaaDoorKx70
namespace Go.Proofs.YtoclldkgkmhgaaaDoor.K
open Go.RowKit Go.MapKept Go.Proofs.YtoclldkgkmhgaaaDoorW.PrintWords Go.Proofs.YtoclldkgkmhgaaaDoorW.PrintLast Go.Proofs.YtoclldkgkmhgaaaDoorW.PrintMore
set_option linter.unusedVariables false
set_option linter.unusedSimpArgs false

/-- Is a listing right? -/
def listOk (x0 x1 x2 x3 : Int) : Bool := (1 ≤ x0 && x0 ≤ 1000000 : Bool) && ((0 ≤ x2 && x2 ≤ 1152921504606846976 : Bool) && (0 ≤ x3 && x3 ≤ 1152921504606846976 : Bool) && (0 < x2 : Bool))
theorem sare_two (a b : Int) : shop_are.f 4 [a, b] = some ((0 ≤ a && a ≤ 1152921504606846976 : Bool) && (0 ≤ b && b ≤ 1152921504606846976 : Bool)) := by
  have e0 : rd [a, b] 0 = a := rfl
  have e1 : rd [a, b] 1 = b := rfl
  have w1 : wrap64 1 = 1 := by first | rfl | (unfold wrap64; omega) | simp [wrap64]
  have w2 : wrap64 2 = 2 := by first | rfl | (unfold wrap64; omega) | simp [wrap64]
  by_cases h1 : a ≥ 0 <;> by_cases h2 : a ≤ 1152921504606846976 <;> by_cases h3 : b ≥ 0 <;> by_cases h4 : b ≤ 1152921504606846976 <;> simp [shop_are.f, shop_are.l0, e0, e1, w1, w2, money_Right.f, h1, h2, h3, h4] <;> omega
theorem shop_ok (x0 x1 x2 x3 : Int) : shop_Right.f 4 x0 x1 x2 x3 = some (listOk x0 x1 x2 x3) := by
  unfold shop_Right.f listOk
  rw [sare_two]
  by_cases h0 : x0 ≥ 1
  · by_cases h1 : x0 ≤ 1000000
    · obtain ⟨q, hq⟩ : ∃ q, ((0 ≤ x2 && x2 ≤ 1152921504606846976 : Bool) && (0 ≤ x3 && x3 ≤ 1152921504606846976 : Bool)) = q := ⟨_, rfl⟩
      rw [hq]
      cases q <;> simp [h0, h1]
    · simp [h0, h1]
  · simp [h0]

--@DUP@
/-- Canceling. -/
def cancelS (xs : List S25) (x0 x1 x2 x3 : Int) : List S25 × Int := if listOk x0 x1 x2 x3 = true then giveS xs x1 x2 else ([], 150)
set_option maxHeartbeats 4000000 in
theorem cancel_done (A : Option Addr) (c : Nat) (xs : List S25) (x0 x1 x2 x3 : Int) (w : World) (hL : Laid w) (hC : Kd.C k25 w A xs.length xs) (hc : xs.length ≤ c) (hlen : xs.length ≤ 1000) (r1 : List S25) (r2 : Int) (hr : cancelS xs x0 x1 x2 x3 = (r1, r2)) :
    Calls Tryd.prog 65 #[.slice A xs.length c, .agg #[.int .u32 x0, .int .u16 x1, .int .i64 x2, .int .i64 x3], .func (.func 61) #[] #[]] w fun e w' => ∃ v0, e = .returned (.tuple #[v0, .int .i64 r2]) ∧ Kd.R k25 25 w' w.heap.size (fun _ => True) v0 r1 ∧ Below w.heap.size w w' := by
  have hu49 := Tryd.underlying49
  have hu25 := Tryd.underlying25
  obtain ⟨b, hb⟩ : ∃ b, listOk x0 x1 x2 x3 = b := ⟨_, rfl⟩
  have HR := Aside0.mk (fun (V : World) (hv : Below w.heap.size w V) => shop_Right.calls 4 x0 x1 x2 x3 b V (Laid_below hL hv) (by rw [shop_ok, hb]))
  have hz := Aside0.mk (MapKept.heap_alloc w (.cells #[.int .u32 x0, .int .u16 x1, .int .i64 x2, .int .i64 x3] 49)).1
  unfold cancelS at hr
  rw [hb] at hr
  cases b with
  | false =>
    simp at hr
    obtain ⟨rfl, rfl⟩ := hr
    clear hb hL hC
    go_enter Tryd.func65, Tryd.ntmps65
    go_wp2_with (go_at_call 41; refine (HR.out _ (below_alloc (Below.refl _ _) _)).mono ?_; rintro e w1 ⟨rfl, hb⟩; have HB := Aside0.mk (below_then (below_alloc (Below.refl _ _) _) (by simp) hb); clear hb)
    go_ret2
    exact ⟨_, rfl, Kd.R_nil _ _ _ _ _, HB.out⟩
  | true =>
    rw [if_pos rfl] at hr
    have HT := Aside0.mk (fun (V : World) (hv : Below w.heap.size w V) => give_walk A c xs x1 x2 V (Laid_below hL hv) (Kd.C_below hC hv) hc hlen r1 r2 hr)
    clear hb hL hC hr
    go_enter Tryd.func65, Tryd.ntmps65
    go_wp2_with (first
      | (go_at_call 41; refine (HR.out _ (below_alloc (Below.refl _ _) _)).mono ?_; rintro e w1 ⟨rfl, hb⟩; have hz1 := keepW hb hz.out; have z1 := (blk_cell hz1 1).trans rfl; have z2 := (blk_cell hz1 2).trans rfl; have HB := Aside0.mk (below_then (below_alloc (Below.refl _ _) _) (by simp) hb); clear hb hz1)
      | (go_at_call 61; refine (HT.out _ HB.out).mono ?_; rintro e w2 ⟨v2, rfl, hR, hb⟩; have HR2 := Aside0.mk (Kd.R_lower hR HB.out.size); have HB2 := Aside0.mk (below_then HB.out HB.out.size hb); clear hR hb))
    go_ret2
    exact ⟨v2, rfl, HR2.out, HB2.out⟩
--@DUPEND@
end Go.Proofs.YtoclldkgkmhgaaaDoor.K
