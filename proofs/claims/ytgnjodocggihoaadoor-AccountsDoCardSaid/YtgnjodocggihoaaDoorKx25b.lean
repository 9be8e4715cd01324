-- Printed by a program of this session (a turned copy of the print); what it takes as given stands in the seat's own texts.
import Derived.Test.YtgnjodocggihoaaDoorKx0
import Derived.Test.YtgnjodocggihoaaDoorKx1
import Derived.Test.YtgnjodocggihoaaDoorKx7
import Derived.Test.YtgnjodocggihoaaDoorCRef
import Derived.Test.YtgnjodocggihoaaDoorKx20
import Derived.Test.YtgnjodocggihoaaDoorKx24
import Derived.Test.YtgnjodocggihoaaDoorAAre
import Derived.Test.YtgnjodocggihoaaDoorKx25a
namespace Go.Proofs.YtgnjodocggihoaaDoor.K
open Go.RowKit Go.Proofs.YtgnjodocggihoaaDoorW.PrintWords Go.Proofs.YtgnjodocggihoaaDoorW.PrintLast Go.Proofs.YtgnjodocggihoaaDoorW.PrintMore
attribute [local go_sem] max2_int min2_int max_two min_two max_three min_three max_four min_four   -- for this text's walks alone
set_option linter.unusedVariables false
set_option linter.unusedSimpArgs false

attribute [local go_sem high] eqA23
/-- What lies in the boxes. -/
def BoxesA (W : World) (L : List (Nat × Value × Value)) : Prop := ∀ p ∈ L, W.heap[p.1]? = some (.cells #[p.2.1, p.2.2] 23 (0, 0))
theorem boxes_below {V W : World} {L : List (Nat × Value × Value)} (h : BoxesA V L) (hb : Below V.heap.size V W) : BoxesA W L := fun p hp => (hb.block _ (Array.getElem?_eq_some_iff.1 (h p hp)).1).trans (h p hp)
theorem boxes_lt {V : World} {L : List (Nat × Value × Value)} (h : BoxesA V L) (p) (hp : p ∈ L) : p.1 < V.heap.size := (Array.getElem?_eq_some_iff.1 (h p hp)).1
theorem boxes_add {V W : World} {L : List (Nat × Value × Value)} (h : BoxesA V L) (hb : Below V.heap.size V W) (r0 r1 : Value) : BoxesA (W.alloc (.cells #[r0, r1] 23)) ((W.heap.size, r0, r1) :: L) := by
  intro p hp
  rcases List.mem_cons.1 hp with rfl | hp
  · exact (MapKept.heap_alloc W (.cells #[r0, r1] 23)).1
  · have hlt := boxes_lt (boxes_below h hb) p hp
    rw [Below.heap_alloc _ _ _ hlt]
    exact boxes_below h hb p hp
theorem below_add {w V W : World} (h : Below w.heap.size w V) (hb : Below V.heap.size V W) (r0 r1 : Value) : Below w.heap.size w (W.alloc (.cells #[r0, r1] 23)) := below_alloc (below_step h hb) _
theorem boxes_add2 {V W : World} {L : List (Nat × Value × Value)} (h : BoxesA V L) (hb : Below V.heap.size V W) (r0 r1 r2 r3 : Value) : BoxesA ((W.alloc (.cells #[r0, r1] 23)).alloc (.cells #[r2, r3] 23)) ((W.heap.size + 1, r2, r3) :: (W.heap.size, r0, r1) :: L) := by
  have h1 := boxes_add h hb r0 r1
  have h2 := boxes_add h1 (Below.refl _ _) r2 r3
  rwa [World.size_alloc] at h2
theorem below_add2 {w V W : World} (h : Below w.heap.size w V) (hb : Below V.heap.size V W) (r0 r1 r2 r3 : Value) : Below w.heap.size w ((W.alloc (.cells #[r0, r1] 23)).alloc (.cells #[r2, r3] 23)) := below_alloc (below_add h hb r0 r1) _
set_option maxHeartbeats 8000000 in
set_option maxRecDepth 100000 in
theorem bazaarlaw13_AccountsDo.calls (k : Nat) (a0_0 : Int) (a0_1 : Int) (a1_0 : Int) (a1_1 : Int) (a2 : Int) (r : Bool) (w : World) (hL : Laid w) (h : bazaarlaw13_AccountsDo.f k a0_0 a0_1 a1_0 a1_1 a2 = some r) (hr_ : r = true) :
  Calls Tryd.prog 5 #[.agg #[.int .i64 a0_0, .int .i64 a0_1], .agg #[.int .i64 a1_0, .int .i64 a1_1], .int .i64 a2] w fun e w' => e = .returned (.bool r) ∧ Below w.heap.size w w' := by
 have HTR_ := Aside0.mk hr_
 clear hr_
 have hu23 := Tryd.underlying23
 have HLD := Aside0.mk hL
 clear hL
 have HB := Aside0.mk (Below.refl w.heap.size w)
 have H : ((bazaarlaw13_shown.f).bind fun t216 => ((accounts_Deposit.f a0_0 a0_1 a2).bind fun bt217 => ((bazaarref13_Deposit.f k a0_0 a0_1 a2).bind fun bt221 => ((accounts_Withdraw.f a0_0 a0_1 a2).bind fun bt225 => ((bazaarref13_Withdraw.f k a0_0 a0_1 a2).bind fun bt229 => ((accounts_Earn.f a0_0 a0_1 a2).bind fun bt233 => ((bazaarref13_Earn.f k a0_0 a0_1 a2).bind fun bt237 => ((accounts_Spend.f a0_0 a0_1 a2).bind fun bt241 => ((bazaarref13_Spend.f k a0_0 a0_1 a2).bind fun bt245 => ((accounts_Pay.f a0_0 a0_1 a1_0 a1_1 a2).bind fun bt249 => ((bazaarref13_Pay.f k a0_0 a0_1 a1_0 a1_1 a2).bind fun bt256 => (if t216 = true then ((accounts_Right.f a0_0 a0_1).bind fun t263 => ((bazaarref13_Right.f k a0_0 a0_1).bind fun t264 => (if (t263 == t264) = true then (if (bt217.1 == bt221.1 && (bt217.2.1 == bt221.2.1)) = true then (if bt217.2.2 = bt221.2.2 then (if (bt225.1 == bt229.1 && (bt225.2.1 == bt229.2.1)) = true then (if bt225.2.2 = bt229.2.2 then (if (bt233.1 == bt237.1 && (bt233.2.1 == bt237.2.1)) = true then (if bt233.2.2 = bt237.2.2 then (if (bt241.1 == bt245.1 && (bt241.2.1 == bt245.2.1)) = true then (if bt241.2.2 = bt245.2.2 then (if (bt249.1 == bt256.1 && (bt249.2.1 == bt256.2.1)) = true then (if (bt249.2.2.1 == bt256.2.2.1 && (bt249.2.2.2.1 == bt256.2.2.2.1)) = true then (some (bt249.2.2.2.2 == bt256.2.2.2.2)) else (some false)) else (some false)) else (some false)) else (some false)) else (some false)) else (some false)) else (some false)) else (some false)) else (some false)) else (some false)) else (some false)))) else (some false))))))))))))) = some r := h
 clear h
 replace H := Option.bind_eq_some_iff.mp H
 obtain ⟨t216, A40, H⟩ := H
 replace H : ((accounts_Deposit.f a0_0 a0_1 a2).bind fun bt217 => ((bazaarref13_Deposit.f k a0_0 a0_1 a2).bind fun bt221 => ((accounts_Withdraw.f a0_0 a0_1 a2).bind fun bt225 => ((bazaarref13_Withdraw.f k a0_0 a0_1 a2).bind fun bt229 => ((accounts_Earn.f a0_0 a0_1 a2).bind fun bt233 => ((bazaarref13_Earn.f k a0_0 a0_1 a2).bind fun bt237 => ((accounts_Spend.f a0_0 a0_1 a2).bind fun bt241 => ((bazaarref13_Spend.f k a0_0 a0_1 a2).bind fun bt245 => ((accounts_Pay.f a0_0 a0_1 a1_0 a1_1 a2).bind fun bt249 => ((bazaarref13_Pay.f k a0_0 a0_1 a1_0 a1_1 a2).bind fun bt256 => (if t216 = true then ((accounts_Right.f a0_0 a0_1).bind fun t263 => ((bazaarref13_Right.f k a0_0 a0_1).bind fun t264 => (if (t263 == t264) = true then (if (bt217.1 == bt221.1 && (bt217.2.1 == bt221.2.1)) = true then (if bt217.2.2 = bt221.2.2 then (if (bt225.1 == bt229.1 && (bt225.2.1 == bt229.2.1)) = true then (if bt225.2.2 = bt229.2.2 then (if (bt233.1 == bt237.1 && (bt233.2.1 == bt237.2.1)) = true then (if bt233.2.2 = bt237.2.2 then (if (bt241.1 == bt245.1 && (bt241.2.1 == bt245.2.1)) = true then (if bt241.2.2 = bt245.2.2 then (if (bt249.1 == bt256.1 && (bt249.2.1 == bt256.2.1)) = true then (if (bt249.2.2.1 == bt256.2.2.1 && (bt249.2.2.2.1 == bt256.2.2.2.1)) = true then (some (bt249.2.2.2.2 == bt256.2.2.2.2)) else (some false)) else (some false)) else (some false)) else (some false)) else (some false)) else (some false)) else (some false)) else (some false)) else (some false)) else (some false)) else (some false)))) else (some false)))))))))))) = some r := H
 have A4 := Aside0.mk A40
 clear A40
 replace H := Option.bind_eq_some_iff.mp H
 obtain ⟨⟨t217, t218, t219⟩, A50, H⟩ := H
 replace H : ((bazaarref13_Deposit.f k a0_0 a0_1 a2).bind fun bt221 => ((accounts_Withdraw.f a0_0 a0_1 a2).bind fun bt225 => ((bazaarref13_Withdraw.f k a0_0 a0_1 a2).bind fun bt229 => ((accounts_Earn.f a0_0 a0_1 a2).bind fun bt233 => ((bazaarref13_Earn.f k a0_0 a0_1 a2).bind fun bt237 => ((accounts_Spend.f a0_0 a0_1 a2).bind fun bt241 => ((bazaarref13_Spend.f k a0_0 a0_1 a2).bind fun bt245 => ((accounts_Pay.f a0_0 a0_1 a1_0 a1_1 a2).bind fun bt249 => ((bazaarref13_Pay.f k a0_0 a0_1 a1_0 a1_1 a2).bind fun bt256 => (if t216 = true then ((accounts_Right.f a0_0 a0_1).bind fun t263 => ((bazaarref13_Right.f k a0_0 a0_1).bind fun t264 => (if (t263 == t264) = true then (if (t217 == bt221.1 && (t218 == bt221.2.1)) = true then (if t219 = bt221.2.2 then (if (bt225.1 == bt229.1 && (bt225.2.1 == bt229.2.1)) = true then (if bt225.2.2 = bt229.2.2 then (if (bt233.1 == bt237.1 && (bt233.2.1 == bt237.2.1)) = true then (if bt233.2.2 = bt237.2.2 then (if (bt241.1 == bt245.1 && (bt241.2.1 == bt245.2.1)) = true then (if bt241.2.2 = bt245.2.2 then (if (bt249.1 == bt256.1 && (bt249.2.1 == bt256.2.1)) = true then (if (bt249.2.2.1 == bt256.2.2.1 && (bt249.2.2.2.1 == bt256.2.2.2.1)) = true then (some (bt249.2.2.2.2 == bt256.2.2.2.2)) else (some false)) else (some false)) else (some false)) else (some false)) else (some false)) else (some false)) else (some false)) else (some false)) else (some false)) else (some false)) else (some false)))) else (some false))))))))))) = some r := H
 have A5 := Aside0.mk A50
 clear A50
 replace H := Option.bind_eq_some_iff.mp H
 obtain ⟨⟨t221, t222, t223⟩, A60, H⟩ := H
 replace H : ((accounts_Withdraw.f a0_0 a0_1 a2).bind fun bt225 => ((bazaarref13_Withdraw.f k a0_0 a0_1 a2).bind fun bt229 => ((accounts_Earn.f a0_0 a0_1 a2).bind fun bt233 => ((bazaarref13_Earn.f k a0_0 a0_1 a2).bind fun bt237 => ((accounts_Spend.f a0_0 a0_1 a2).bind fun bt241 => ((bazaarref13_Spend.f k a0_0 a0_1 a2).bind fun bt245 => ((accounts_Pay.f a0_0 a0_1 a1_0 a1_1 a2).bind fun bt249 => ((bazaarref13_Pay.f k a0_0 a0_1 a1_0 a1_1 a2).bind fun bt256 => (if t216 = true then ((accounts_Right.f a0_0 a0_1).bind fun t263 => ((bazaarref13_Right.f k a0_0 a0_1).bind fun t264 => (if (t263 == t264) = true then (if (t217 == t221 && (t218 == t222)) = true then (if t219 = t223 then (if (bt225.1 == bt229.1 && (bt225.2.1 == bt229.2.1)) = true then (if bt225.2.2 = bt229.2.2 then (if (bt233.1 == bt237.1 && (bt233.2.1 == bt237.2.1)) = true then (if bt233.2.2 = bt237.2.2 then (if (bt241.1 == bt245.1 && (bt241.2.1 == bt245.2.1)) = true then (if bt241.2.2 = bt245.2.2 then (if (bt249.1 == bt256.1 && (bt249.2.1 == bt256.2.1)) = true then (if (bt249.2.2.1 == bt256.2.2.1 && (bt249.2.2.2.1 == bt256.2.2.2.1)) = true then (some (bt249.2.2.2.2 == bt256.2.2.2.2)) else (some false)) else (some false)) else (some false)) else (some false)) else (some false)) else (some false)) else (some false)) else (some false)) else (some false)) else (some false)) else (some false)))) else (some false)))))))))) = some r := H
 have A6 := Aside0.mk A60
 clear A60
 replace H := Option.bind_eq_some_iff.mp H
 obtain ⟨⟨t225, t226, t227⟩, A70, H⟩ := H
 replace H : ((bazaarref13_Withdraw.f k a0_0 a0_1 a2).bind fun bt229 => ((accounts_Earn.f a0_0 a0_1 a2).bind fun bt233 => ((bazaarref13_Earn.f k a0_0 a0_1 a2).bind fun bt237 => ((accounts_Spend.f a0_0 a0_1 a2).bind fun bt241 => ((bazaarref13_Spend.f k a0_0 a0_1 a2).bind fun bt245 => ((accounts_Pay.f a0_0 a0_1 a1_0 a1_1 a2).bind fun bt249 => ((bazaarref13_Pay.f k a0_0 a0_1 a1_0 a1_1 a2).bind fun bt256 => (if t216 = true then ((accounts_Right.f a0_0 a0_1).bind fun t263 => ((bazaarref13_Right.f k a0_0 a0_1).bind fun t264 => (if (t263 == t264) = true then (if (t217 == t221 && (t218 == t222)) = true then (if t219 = t223 then (if (t225 == bt229.1 && (t226 == bt229.2.1)) = true then (if t227 = bt229.2.2 then (if (bt233.1 == bt237.1 && (bt233.2.1 == bt237.2.1)) = true then (if bt233.2.2 = bt237.2.2 then (if (bt241.1 == bt245.1 && (bt241.2.1 == bt245.2.1)) = true then (if bt241.2.2 = bt245.2.2 then (if (bt249.1 == bt256.1 && (bt249.2.1 == bt256.2.1)) = true then (if (bt249.2.2.1 == bt256.2.2.1 && (bt249.2.2.2.1 == bt256.2.2.2.1)) = true then (some (bt249.2.2.2.2 == bt256.2.2.2.2)) else (some false)) else (some false)) else (some false)) else (some false)) else (some false)) else (some false)) else (some false)) else (some false)) else (some false)) else (some false)) else (some false)))) else (some false))))))))) = some r := H
 have A7 := Aside0.mk A70
 clear A70
 replace H := Option.bind_eq_some_iff.mp H
 obtain ⟨⟨t229, t230, t231⟩, A80, H⟩ := H
 replace H : ((accounts_Earn.f a0_0 a0_1 a2).bind fun bt233 => ((bazaarref13_Earn.f k a0_0 a0_1 a2).bind fun bt237 => ((accounts_Spend.f a0_0 a0_1 a2).bind fun bt241 => ((bazaarref13_Spend.f k a0_0 a0_1 a2).bind fun bt245 => ((accounts_Pay.f a0_0 a0_1 a1_0 a1_1 a2).bind fun bt249 => ((bazaarref13_Pay.f k a0_0 a0_1 a1_0 a1_1 a2).bind fun bt256 => (if t216 = true then ((accounts_Right.f a0_0 a0_1).bind fun t263 => ((bazaarref13_Right.f k a0_0 a0_1).bind fun t264 => (if (t263 == t264) = true then (if (t217 == t221 && (t218 == t222)) = true then (if t219 = t223 then (if (t225 == t229 && (t226 == t230)) = true then (if t227 = t231 then (if (bt233.1 == bt237.1 && (bt233.2.1 == bt237.2.1)) = true then (if bt233.2.2 = bt237.2.2 then (if (bt241.1 == bt245.1 && (bt241.2.1 == bt245.2.1)) = true then (if bt241.2.2 = bt245.2.2 then (if (bt249.1 == bt256.1 && (bt249.2.1 == bt256.2.1)) = true then (if (bt249.2.2.1 == bt256.2.2.1 && (bt249.2.2.2.1 == bt256.2.2.2.1)) = true then (some (bt249.2.2.2.2 == bt256.2.2.2.2)) else (some false)) else (some false)) else (some false)) else (some false)) else (some false)) else (some false)) else (some false)) else (some false)) else (some false)) else (some false)) else (some false)))) else (some false)))))))) = some r := H
 have A8 := Aside0.mk A80
 clear A80
 replace H := Option.bind_eq_some_iff.mp H
 obtain ⟨⟨t233, t234, t235⟩, A90, H⟩ := H
 replace H : ((bazaarref13_Earn.f k a0_0 a0_1 a2).bind fun bt237 => ((accounts_Spend.f a0_0 a0_1 a2).bind fun bt241 => ((bazaarref13_Spend.f k a0_0 a0_1 a2).bind fun bt245 => ((accounts_Pay.f a0_0 a0_1 a1_0 a1_1 a2).bind fun bt249 => ((bazaarref13_Pay.f k a0_0 a0_1 a1_0 a1_1 a2).bind fun bt256 => (if t216 = true then ((accounts_Right.f a0_0 a0_1).bind fun t263 => ((bazaarref13_Right.f k a0_0 a0_1).bind fun t264 => (if (t263 == t264) = true then (if (t217 == t221 && (t218 == t222)) = true then (if t219 = t223 then (if (t225 == t229 && (t226 == t230)) = true then (if t227 = t231 then (if (t233 == bt237.1 && (t234 == bt237.2.1)) = true then (if t235 = bt237.2.2 then (if (bt241.1 == bt245.1 && (bt241.2.1 == bt245.2.1)) = true then (if bt241.2.2 = bt245.2.2 then (if (bt249.1 == bt256.1 && (bt249.2.1 == bt256.2.1)) = true then (if (bt249.2.2.1 == bt256.2.2.1 && (bt249.2.2.2.1 == bt256.2.2.2.1)) = true then (some (bt249.2.2.2.2 == bt256.2.2.2.2)) else (some false)) else (some false)) else (some false)) else (some false)) else (some false)) else (some false)) else (some false)) else (some false)) else (some false)) else (some false)) else (some false)))) else (some false))))))) = some r := H
 have A9 := Aside0.mk A90
 clear A90
 replace H := Option.bind_eq_some_iff.mp H
 obtain ⟨⟨t237, t238, t239⟩, A100, H⟩ := H
 replace H : ((accounts_Spend.f a0_0 a0_1 a2).bind fun bt241 => ((bazaarref13_Spend.f k a0_0 a0_1 a2).bind fun bt245 => ((accounts_Pay.f a0_0 a0_1 a1_0 a1_1 a2).bind fun bt249 => ((bazaarref13_Pay.f k a0_0 a0_1 a1_0 a1_1 a2).bind fun bt256 => (if t216 = true then ((accounts_Right.f a0_0 a0_1).bind fun t263 => ((bazaarref13_Right.f k a0_0 a0_1).bind fun t264 => (if (t263 == t264) = true then (if (t217 == t221 && (t218 == t222)) = true then (if t219 = t223 then (if (t225 == t229 && (t226 == t230)) = true then (if t227 = t231 then (if (t233 == t237 && (t234 == t238)) = true then (if t235 = t239 then (if (bt241.1 == bt245.1 && (bt241.2.1 == bt245.2.1)) = true then (if bt241.2.2 = bt245.2.2 then (if (bt249.1 == bt256.1 && (bt249.2.1 == bt256.2.1)) = true then (if (bt249.2.2.1 == bt256.2.2.1 && (bt249.2.2.2.1 == bt256.2.2.2.1)) = true then (some (bt249.2.2.2.2 == bt256.2.2.2.2)) else (some false)) else (some false)) else (some false)) else (some false)) else (some false)) else (some false)) else (some false)) else (some false)) else (some false)) else (some false)) else (some false)))) else (some false)))))) = some r := H
 have A10 := Aside0.mk A100
 clear A100
 replace H := Option.bind_eq_some_iff.mp H
 obtain ⟨⟨t241, t242, t243⟩, A110, H⟩ := H
 replace H : ((bazaarref13_Spend.f k a0_0 a0_1 a2).bind fun bt245 => ((accounts_Pay.f a0_0 a0_1 a1_0 a1_1 a2).bind fun bt249 => ((bazaarref13_Pay.f k a0_0 a0_1 a1_0 a1_1 a2).bind fun bt256 => (if t216 = true then ((accounts_Right.f a0_0 a0_1).bind fun t263 => ((bazaarref13_Right.f k a0_0 a0_1).bind fun t264 => (if (t263 == t264) = true then (if (t217 == t221 && (t218 == t222)) = true then (if t219 = t223 then (if (t225 == t229 && (t226 == t230)) = true then (if t227 = t231 then (if (t233 == t237 && (t234 == t238)) = true then (if t235 = t239 then (if (t241 == bt245.1 && (t242 == bt245.2.1)) = true then (if t243 = bt245.2.2 then (if (bt249.1 == bt256.1 && (bt249.2.1 == bt256.2.1)) = true then (if (bt249.2.2.1 == bt256.2.2.1 && (bt249.2.2.2.1 == bt256.2.2.2.1)) = true then (some (bt249.2.2.2.2 == bt256.2.2.2.2)) else (some false)) else (some false)) else (some false)) else (some false)) else (some false)) else (some false)) else (some false)) else (some false)) else (some false)) else (some false)) else (some false)))) else (some false))))) = some r := H
 have A11 := Aside0.mk A110
 clear A110
 replace H := Option.bind_eq_some_iff.mp H
 obtain ⟨⟨t245, t246, t247⟩, A120, H⟩ := H
 replace H : ((accounts_Pay.f a0_0 a0_1 a1_0 a1_1 a2).bind fun bt249 => ((bazaarref13_Pay.f k a0_0 a0_1 a1_0 a1_1 a2).bind fun bt256 => (if t216 = true then ((accounts_Right.f a0_0 a0_1).bind fun t263 => ((bazaarref13_Right.f k a0_0 a0_1).bind fun t264 => (if (t263 == t264) = true then (if (t217 == t221 && (t218 == t222)) = true then (if t219 = t223 then (if (t225 == t229 && (t226 == t230)) = true then (if t227 = t231 then (if (t233 == t237 && (t234 == t238)) = true then (if t235 = t239 then (if (t241 == t245 && (t242 == t246)) = true then (if t243 = t247 then (if (bt249.1 == bt256.1 && (bt249.2.1 == bt256.2.1)) = true then (if (bt249.2.2.1 == bt256.2.2.1 && (bt249.2.2.2.1 == bt256.2.2.2.1)) = true then (some (bt249.2.2.2.2 == bt256.2.2.2.2)) else (some false)) else (some false)) else (some false)) else (some false)) else (some false)) else (some false)) else (some false)) else (some false)) else (some false)) else (some false)) else (some false)))) else (some false)))) = some r := H
 have A12 := Aside0.mk A120
 clear A120
 replace H := Option.bind_eq_some_iff.mp H
 obtain ⟨⟨t249, t250, t251, t252, t253⟩, A130, H⟩ := H
 replace H : ((bazaarref13_Pay.f k a0_0 a0_1 a1_0 a1_1 a2).bind fun bt256 => (if t216 = true then ((accounts_Right.f a0_0 a0_1).bind fun t263 => ((bazaarref13_Right.f k a0_0 a0_1).bind fun t264 => (if (t263 == t264) = true then (if (t217 == t221 && (t218 == t222)) = true then (if t219 = t223 then (if (t225 == t229 && (t226 == t230)) = true then (if t227 = t231 then (if (t233 == t237 && (t234 == t238)) = true then (if t235 = t239 then (if (t241 == t245 && (t242 == t246)) = true then (if t243 = t247 then (if (t249 == bt256.1 && (t250 == bt256.2.1)) = true then (if (t251 == bt256.2.2.1 && (t252 == bt256.2.2.2.1)) = true then (some (t253 == bt256.2.2.2.2)) else (some false)) else (some false)) else (some false)) else (some false)) else (some false)) else (some false)) else (some false)) else (some false)) else (some false)) else (some false)) else (some false)))) else (some false))) = some r := H
 have A13 := Aside0.mk A130
 clear A130
 replace H := Option.bind_eq_some_iff.mp H
 obtain ⟨⟨t256, t257, t258, t259, t260⟩, A140, H⟩ := H
 replace H : (if t216 = true then ((accounts_Right.f a0_0 a0_1).bind fun t263 => ((bazaarref13_Right.f k a0_0 a0_1).bind fun t264 => (if (t263 == t264) = true then (if (t217 == t221 && (t218 == t222)) = true then (if t219 = t223 then (if (t225 == t229 && (t226 == t230)) = true then (if t227 = t231 then (if (t233 == t237 && (t234 == t238)) = true then (if t235 = t239 then (if (t241 == t245 && (t242 == t246)) = true then (if t243 = t247 then (if (t249 == t256 && (t250 == t257)) = true then (if (t251 == t258 && (t252 == t259)) = true then (some (t253 == t260)) else (some false)) else (some false)) else (some false)) else (some false)) else (some false)) else (some false)) else (some false)) else (some false)) else (some false)) else (some false)) else (some false)))) else (some false)) = some r := H
 have A14 := Aside0.mk A140
 clear A140
 by_cases c15 : t216 = true
 ·subst c15
  have H1 : ((accounts_Right.f a0_0 a0_1).bind fun t263 => ((bazaarref13_Right.f k a0_0 a0_1).bind fun t264 => (if (t263 == t264) = true then (if (t217 == t221 && (t218 == t222)) = true then (if t219 = t223 then (if (t225 == t229 && (t226 == t230)) = true then (if t227 = t231 then (if (t233 == t237 && (t234 == t238)) = true then (if t235 = t239 then (if (t241 == t245 && (t242 == t246)) = true then (if t243 = t247 then (if (t249 == t256 && (t250 == t257)) = true then (if (t251 == t258 && (t252 == t259)) = true then (some (t253 == t260)) else (some false)) else (some false)) else (some false)) else (some false)) else (some false)) else (some false)) else (some false)) else (some false)) else (some false)) else (some false)) else (some false)))) = some r := by rw [if_pos rfl] at H; exact H
  clear H
  have H := H1
  clear H1
  replace H := Option.bind_eq_some_iff.mp H
  obtain ⟨t263, A160, H⟩ := H
  replace H : ((bazaarref13_Right.f k a0_0 a0_1).bind fun t264 => (if (t263 == t264) = true then (if (t217 == t221 && (t218 == t222)) = true then (if t219 = t223 then (if (t225 == t229 && (t226 == t230)) = true then (if t227 = t231 then (if (t233 == t237 && (t234 == t238)) = true then (if t235 = t239 then (if (t241 == t245 && (t242 == t246)) = true then (if t243 = t247 then (if (t249 == t256 && (t250 == t257)) = true then (if (t251 == t258 && (t252 == t259)) = true then (some (t253 == t260)) else (some false)) else (some false)) else (some false)) else (some false)) else (some false)) else (some false)) else (some false)) else (some false)) else (some false)) else (some false)) else (some false))) = some r := H
  have A16 := Aside0.mk A160
  clear A160
  replace H := Option.bind_eq_some_iff.mp H
  obtain ⟨t264, A170, H⟩ := H
  replace H : (if (t263 == t264) = true then (if (t217 == t221 && (t218 == t222)) = true then (if t219 = t223 then (if (t225 == t229 && (t226 == t230)) = true then (if t227 = t231 then (if (t233 == t237 && (t234 == t238)) = true then (if t235 = t239 then (if (t241 == t245 && (t242 == t246)) = true then (if t243 = t247 then (if (t249 == t256 && (t250 == t257)) = true then (if (t251 == t258 && (t252 == t259)) = true then (some (t253 == t260)) else (some false)) else (some false)) else (some false)) else (some false)) else (some false)) else (some false)) else (some false)) else (some false)) else (some false)) else (some false)) else (some false)) = some r := H
  have A17 := Aside0.mk A170
  clear A170
  by_cases c18 : (t263 == t264) = true
  ·rw [if_pos c18] at H
   have c18b0 : (t263 == t264) = true := c18
   (try (have c18b1 : decide (t263 = t264) = true := by simpa using c18))
   (try (have c18b2 : (t263 == t264) = true := by simpa using c18))
   clear c18
   by_cases c19 : (t217 == t221 && (t218 == t222)) = true
   ·rw [if_pos c19] at H
    have c19b0 : (t217 == t221 && (t218 == t222)) = true := c19
    (try (have c19b1 : decide (t217 = t221 && (t218 == t222)) = true := by simpa using c19))
    (try (have c19b2 : (t217 == t221 && (t218 == t222)) = true := by simpa using c19))
    clear c19
    by_cases c20 : t219 = t223
    ·rw [if_pos c20] at H
     have c20b0 : (t219 == t223) = true := beq_iff_eq.mpr c20
     have c20b1 : (t219 != t223) = false := bne_eq_false_iff_eq.mpr c20
     clear c20
     by_cases c21 : (t225 == t229 && (t226 == t230)) = true
     ·rw [if_pos c21] at H
      have c21b0 : (t225 == t229 && (t226 == t230)) = true := c21
      (try (have c21b1 : decide (t225 = t229 && (t226 == t230)) = true := by simpa using c21))
      (try (have c21b2 : (t225 == t229 && (t226 == t230)) = true := by simpa using c21))
      clear c21
      by_cases c22 : t227 = t231
      ·rw [if_pos c22] at H
       have c22b0 : (t227 == t231) = true := beq_iff_eq.mpr c22
       have c22b1 : (t227 != t231) = false := bne_eq_false_iff_eq.mpr c22
       clear c22
       by_cases c23 : (t233 == t237 && (t234 == t238)) = true
       ·rw [if_pos c23] at H
        have c23b0 : (t233 == t237 && (t234 == t238)) = true := c23
        (try (have c23b1 : decide (t233 = t237 && (t234 == t238)) = true := by simpa using c23))
        (try (have c23b2 : (t233 == t237 && (t234 == t238)) = true := by simpa using c23))
        clear c23
        by_cases c24 : t235 = t239
        ·rw [if_pos c24] at H
         have c24b0 : (t235 == t239) = true := beq_iff_eq.mpr c24
         have c24b1 : (t235 != t239) = false := bne_eq_false_iff_eq.mpr c24
         clear c24
         by_cases c25 : (t241 == t245 && (t242 == t246)) = true
         ·rw [if_pos c25] at H
          have c25b0 : (t241 == t245 && (t242 == t246)) = true := c25
          (try (have c25b1 : decide (t241 = t245 && (t242 == t246)) = true := by simpa using c25))
          (try (have c25b2 : (t241 == t245 && (t242 == t246)) = true := by simpa using c25))
          clear c25
          by_cases c26 : t243 = t247
          ·rw [if_pos c26] at H
           have c26b0 : (t243 == t247) = true := beq_iff_eq.mpr c26
           have c26b1 : (t243 != t247) = false := bne_eq_false_iff_eq.mpr c26
           clear c26
           by_cases c27 : (t249 == t256 && (t250 == t257)) = true
           ·rw [if_pos c27] at H
            have c27b0 : (t249 == t256 && (t250 == t257)) = true := c27
            (try (have c27b1 : decide (t249 = t256 && (t250 == t257)) = true := by simpa using c27))
            (try (have c27b2 : (t249 == t256 && (t250 == t257)) = true := by simpa using c27))
            clear c27
            by_cases c28 : (t251 == t258 && (t252 == t259)) = true
            ·rw [if_pos c28] at H
             have c28b0 : (t251 == t258 && (t252 == t259)) = true := c28
             (try (have c28b1 : decide (t251 = t258 && (t252 == t259)) = true := by simpa using c28))
             (try (have c28b2 : (t251 == t258 && (t252 == t259)) = true := by simpa using c28))
             clear c28
             obtain rfl := Option.some.inj H
             go_enter Tryd.func5, Tryd.ntmps5
             have HC1 := Aside0.mk (fun (V : World) (hb : Below w.heap.size w V) => bazaarlaw13_shown.calls true V (Laid_below HLD.out hb) A4.out)
             have HC2 := Aside0.mk (fun (V : World) (hb : Below w.heap.size w V) => accounts_Deposit.calls a0_0 a0_1 a2 t217 t218 t219 V (Laid_below HLD.out hb) A5.out)
             have HC3 := Aside0.mk (fun (V : World) (hb : Below w.heap.size w V) => bazaarref13_Deposit.calls k a0_0 a0_1 a2 t221 t222 t223 V (Laid_below HLD.out hb) A6.out)
             have HC4 := Aside0.mk (fun (V : World) (hb : Below w.heap.size w V) => accounts_Withdraw.calls a0_0 a0_1 a2 t225 t226 t227 V (Laid_below HLD.out hb) A7.out)
             have HC5 := Aside0.mk (fun (V : World) (hb : Below w.heap.size w V) => bazaarref13_Withdraw.calls k a0_0 a0_1 a2 t229 t230 t231 V (Laid_below HLD.out hb) A8.out)
             have HC6 := Aside0.mk (fun (V : World) (hb : Below w.heap.size w V) => accounts_Earn.calls a0_0 a0_1 a2 t233 t234 t235 V (Laid_below HLD.out hb) A9.out)
             have HC7 := Aside0.mk (fun (V : World) (hb : Below w.heap.size w V) => bazaarref13_Earn.calls k a0_0 a0_1 a2 t237 t238 t239 V (Laid_below HLD.out hb) A10.out)
             have HC8 := Aside0.mk (fun (V : World) (hb : Below w.heap.size w V) => accounts_Spend.calls a0_0 a0_1 a2 t241 t242 t243 V (Laid_below HLD.out hb) A11.out)
             have HC9 := Aside0.mk (fun (V : World) (hb : Below w.heap.size w V) => bazaarref13_Spend.calls k a0_0 a0_1 a2 t245 t246 t247 V (Laid_below HLD.out hb) A12.out)
             have HC10 := Aside0.mk (fun (V : World) (hb : Below w.heap.size w V) => accounts_Pay.calls a0_0 a0_1 a1_0 a1_1 a2 t249 t250 t251 t252 t253 V (Laid_below HLD.out hb) A13.out)
             have HC11 := Aside0.mk (fun (V : World) (hb : Below w.heap.size w V) => bazaarref13_Pay.calls k a0_0 a0_1 a1_0 a1_1 a2 t256 t257 t258 t259 t260 V (Laid_below HLD.out hb) A14.out)
             clear A4 A5 A6 A7 A8 A9 A10 A11 A12 A13 A14
             go_upto_region 2 with (go_at_call 15; refine (HC1.out _ (below_alloc (below_alloc (Below.refl w.heap.size w) _) _)).mono ?_; rintro e v2 ⟨rfl, hb⟩; have HK2 := Aside0.mk hb; clear hb)
             have HB2 : Aside0 (Below w.heap.size w v2) := ⟨below_step (below_alloc (below_alloc (Below.refl w.heap.size w) (.cells #[.int .i64 a0_0, .int .i64 a0_1] 23)) (.cells #[.int .i64 a1_0, .int .i64 a1_1] 23)) HK2.out⟩
             have HX2 : Aside0 (BoxesA v2 [((w.heap.size), .int .i64 a0_0, .int .i64 a0_1), ((w.heap.size + 1), .int .i64 a1_0, .int .i64 a1_1)]) := ⟨boxes_below (V := (w.alloc (.cells #[.int .i64 a0_0, .int .i64 a0_1] 23)).alloc (.cells #[.int .i64 a1_0, .int .i64 a1_1] 23)) (by
               intro p hp
               rcases List.mem_cons.1 hp with rfl | hp
               · exact (Below.heap_alloc _ _ _ (by simp)).trans (MapKept.heap_alloc w _).1
               · rcases List.mem_cons.1 hp with rfl | hp
                 · have := (MapKept.heap_alloc (w.alloc (.cells #[.int .i64 a0_0, .int .i64 a0_1] 23)) (.cells #[.int .i64 a1_0, .int .i64 a1_1] 23)).1
                   rwa [World.size_alloc] at this
                 · simp at hp) HK2.out⟩
             clear HK2 HC1
             have ca : v2.heap[(w.heap.size)]? = _ := HX2.out ((w.heap.size), .int .i64 a0_0, .int .i64 a0_1) (by simp)
             have ca0 := (blk_cell ca 0).trans rfl
             have ca1 := (blk_cell ca 1).trans rfl
             clear ca
             go_upto_region 3 with (go_at_call 16; refine (HC2.out _ HB2.out).mono ?_; rintro e u2 ⟨rfl, hb⟩; have HK2 := Aside0.mk hb; clear hb)
             have HX3 := Aside0.mk (boxes_add HX2.out HK2.out (.int .i64 t217) (.int .i64 t218))
             have HB3 := Aside0.mk (below_add HB2.out HK2.out (.int .i64 t217) (.int .i64 t218))
             clear ca0 ca1 HX2 HB2 HK2 HC2
             generalize u2.alloc (.cells #[.int .i64 t217, .int .i64 t218] 23) = v3 at HX3 HB3 ⊢
             generalize u2.heap.size = gb220 at HX3 ⊢
             have ca : v3.heap[(w.heap.size)]? = _ := HX3.out ((w.heap.size), .int .i64 a0_0, .int .i64 a0_1) (by simp)
             have ca0 := (blk_cell ca 0).trans rfl
             have ca1 := (blk_cell ca 1).trans rfl
             clear ca
             go_upto_region 4 with (go_at_call 20; refine (HC3.out _ HB3.out).mono ?_; rintro e u3 ⟨rfl, hb⟩; have HK3 := Aside0.mk hb; clear hb)
             have HX4 := Aside0.mk (boxes_add HX3.out HK3.out (.int .i64 t221) (.int .i64 t222))
             have HB4 := Aside0.mk (below_add HB3.out HK3.out (.int .i64 t221) (.int .i64 t222))
             clear ca0 ca1 HX3 HB3 HK3 HC3
             generalize u3.alloc (.cells #[.int .i64 t221, .int .i64 t222] 23) = v4 at HX4 HB4 ⊢
             generalize u3.heap.size = gb224 at HX4 ⊢
             have ca : v4.heap[(w.heap.size)]? = _ := HX4.out ((w.heap.size), .int .i64 a0_0, .int .i64 a0_1) (by simp)
             have ca0 := (blk_cell ca 0).trans rfl
             have ca1 := (blk_cell ca 1).trans rfl
             clear ca
             go_upto_region 5 with (go_at_call 17; refine (HC4.out _ HB4.out).mono ?_; rintro e u4 ⟨rfl, hb⟩; have HK4 := Aside0.mk hb; clear hb)
             have HX5 := Aside0.mk (boxes_add HX4.out HK4.out (.int .i64 t225) (.int .i64 t226))
             have HB5 := Aside0.mk (below_add HB4.out HK4.out (.int .i64 t225) (.int .i64 t226))
             clear ca0 ca1 HX4 HB4 HK4 HC4
             generalize u4.alloc (.cells #[.int .i64 t225, .int .i64 t226] 23) = v5 at HX5 HB5 ⊢
             generalize u4.heap.size = gb228 at HX5 ⊢
             have ca : v5.heap[(w.heap.size)]? = _ := HX5.out ((w.heap.size), .int .i64 a0_0, .int .i64 a0_1) (by simp)
             have ca0 := (blk_cell ca 0).trans rfl
             have ca1 := (blk_cell ca 1).trans rfl
             clear ca
             go_upto_region 6 with (go_at_call 21; refine (HC5.out _ HB5.out).mono ?_; rintro e u5 ⟨rfl, hb⟩; have HK5 := Aside0.mk hb; clear hb)
             have HX6 := Aside0.mk (boxes_add HX5.out HK5.out (.int .i64 t229) (.int .i64 t230))
             have HB6 := Aside0.mk (below_add HB5.out HK5.out (.int .i64 t229) (.int .i64 t230))
             clear ca0 ca1 HX5 HB5 HK5 HC5
             generalize u5.alloc (.cells #[.int .i64 t229, .int .i64 t230] 23) = v6 at HX6 HB6 ⊢
             generalize u5.heap.size = gb232 at HX6 ⊢
             have ca : v6.heap[(w.heap.size)]? = _ := HX6.out ((w.heap.size), .int .i64 a0_0, .int .i64 a0_1) (by simp)
             have ca0 := (blk_cell ca 0).trans rfl
             have ca1 := (blk_cell ca 1).trans rfl
             clear ca
             go_upto_region 7 with (go_at_call 18; refine (HC6.out _ HB6.out).mono ?_; rintro e u6 ⟨rfl, hb⟩; have HK6 := Aside0.mk hb; clear hb)
             have HX7 := Aside0.mk (boxes_add HX6.out HK6.out (.int .i64 t233) (.int .i64 t234))
             have HB7 := Aside0.mk (below_add HB6.out HK6.out (.int .i64 t233) (.int .i64 t234))
             clear ca0 ca1 HX6 HB6 HK6 HC6
             generalize u6.alloc (.cells #[.int .i64 t233, .int .i64 t234] 23) = v7 at HX7 HB7 ⊢
             generalize u6.heap.size = gb236 at HX7 ⊢
             have ca : v7.heap[(w.heap.size)]? = _ := HX7.out ((w.heap.size), .int .i64 a0_0, .int .i64 a0_1) (by simp)
             have ca0 := (blk_cell ca 0).trans rfl
             have ca1 := (blk_cell ca 1).trans rfl
             clear ca
             go_upto_region 8 with (go_at_call 22; refine (HC7.out _ HB7.out).mono ?_; rintro e u7 ⟨rfl, hb⟩; have HK7 := Aside0.mk hb; clear hb)
             have HX8 := Aside0.mk (boxes_add HX7.out HK7.out (.int .i64 t237) (.int .i64 t238))
             have HB8 := Aside0.mk (below_add HB7.out HK7.out (.int .i64 t237) (.int .i64 t238))
             clear ca0 ca1 HX7 HB7 HK7 HC7
             generalize u7.alloc (.cells #[.int .i64 t237, .int .i64 t238] 23) = v8 at HX8 HB8 ⊢
             generalize u7.heap.size = gb240 at HX8 ⊢
             have ca : v8.heap[(w.heap.size)]? = _ := HX8.out ((w.heap.size), .int .i64 a0_0, .int .i64 a0_1) (by simp)
             have ca0 := (blk_cell ca 0).trans rfl
             have ca1 := (blk_cell ca 1).trans rfl
             clear ca
             go_upto_region 9 with (go_at_call 19; refine (HC8.out _ HB8.out).mono ?_; rintro e u8 ⟨rfl, hb⟩; have HK8 := Aside0.mk hb; clear hb)
             have HX9 := Aside0.mk (boxes_add HX8.out HK8.out (.int .i64 t241) (.int .i64 t242))
             have HB9 := Aside0.mk (below_add HB8.out HK8.out (.int .i64 t241) (.int .i64 t242))
             clear ca0 ca1 HX8 HB8 HK8 HC8
             generalize u8.alloc (.cells #[.int .i64 t241, .int .i64 t242] 23) = v9 at HX9 HB9 ⊢
             generalize u8.heap.size = gb244 at HX9 ⊢
             have ca : v9.heap[(w.heap.size)]? = _ := HX9.out ((w.heap.size), .int .i64 a0_0, .int .i64 a0_1) (by simp)
             have ca0 := (blk_cell ca 0).trans rfl
             have ca1 := (blk_cell ca 1).trans rfl
             clear ca
             go_upto_region 10 with (go_at_call 23; refine (HC9.out _ HB9.out).mono ?_; rintro e u9 ⟨rfl, hb⟩; have HK9 := Aside0.mk hb; clear hb)
             have HX10 := Aside0.mk (boxes_add HX9.out HK9.out (.int .i64 t245) (.int .i64 t246))
             have HB10 := Aside0.mk (below_add HB9.out HK9.out (.int .i64 t245) (.int .i64 t246))
             clear ca0 ca1 HX9 HB9 HK9 HC9
             generalize u9.alloc (.cells #[.int .i64 t245, .int .i64 t246] 23) = v10 at HX10 HB10 ⊢
             generalize u9.heap.size = gb248 at HX10 ⊢
             have ca : v10.heap[(w.heap.size)]? = _ := HX10.out ((w.heap.size), .int .i64 a0_0, .int .i64 a0_1) (by simp)
             have ca0 := (blk_cell ca 0).trans rfl
             have ca1 := (blk_cell ca 1).trans rfl
             have cb : v10.heap[(w.heap.size + 1)]? = _ := HX10.out ((w.heap.size + 1), .int .i64 a1_0, .int .i64 a1_1) (by simp)
             have cb0 := (blk_cell cb 0).trans rfl
             have cb1 := (blk_cell cb 1).trans rfl
             clear ca cb
             go_upto_region 11 with (go_at_call 24; refine (HC10.out _ HB10.out).mono ?_; rintro e u10 ⟨rfl, hb⟩; have HK10 := Aside0.mk hb; clear hb)
             have HX11 := Aside0.mk (boxes_add2 HX10.out HK10.out (.int .i64 t249) (.int .i64 t250) (.int .i64 t251) (.int .i64 t252))
             have HB11 := Aside0.mk (below_add2 HB10.out HK10.out (.int .i64 t249) (.int .i64 t250) (.int .i64 t251) (.int .i64 t252))
             clear ca0 ca1 cb0 cb1 HX10 HB10 HK10 HC10
             generalize (u10.alloc (.cells #[.int .i64 t249, .int .i64 t250] 23)).alloc (.cells #[.int .i64 t251, .int .i64 t252] 23) = v11 at HX11 HB11 ⊢
             generalize u10.heap.size + 1 = gb255 at HX11 ⊢
             generalize u10.heap.size = gb254 at HX11 ⊢
             have ca : v11.heap[(w.heap.size)]? = _ := HX11.out ((w.heap.size), .int .i64 a0_0, .int .i64 a0_1) (by simp)
             have ca0 := (blk_cell ca 0).trans rfl
             have ca1 := (blk_cell ca 1).trans rfl
             have cb : v11.heap[(w.heap.size + 1)]? = _ := HX11.out ((w.heap.size + 1), .int .i64 a1_0, .int .i64 a1_1) (by simp)
             have cb0 := (blk_cell cb 0).trans rfl
             have cb1 := (blk_cell cb 1).trans rfl
             clear ca cb
             go_upto_region 12 with (go_at_call 25; refine (HC11.out _ HB11.out).mono ?_; rintro e u11 ⟨rfl, hb⟩; have HK11 := Aside0.mk hb; clear hb)
             have HX12 := Aside0.mk (boxes_add2 HX11.out HK11.out (.int .i64 t256) (.int .i64 t257) (.int .i64 t258) (.int .i64 t259))
             have HB12 := Aside0.mk (below_add2 HB11.out HK11.out (.int .i64 t256) (.int .i64 t257) (.int .i64 t258) (.int .i64 t259))
             clear ca0 ca1 cb0 cb1 HX11 HB11 HK11 HC11
             generalize (u11.alloc (.cells #[.int .i64 t256, .int .i64 t257] 23)).alloc (.cells #[.int .i64 t258, .int .i64 t259] 23) = v12 at HX12 HB12 ⊢
             generalize u11.heap.size + 1 = gb262 at HX12 ⊢
             generalize u11.heap.size = gb261 at HX12 ⊢
             obtain ⟨w169, hw169⟩ : ∃ x, v12 = x := ⟨_, rfl⟩
             cases hw169
             have BK214 : Aside0 (v12.heap[(w.heap.size)]? = some (.cells #[.int .i64 a0_0, .int .i64 a0_1] 23 (0, 0))) := ⟨HX12.out ((w.heap.size), .int .i64 a0_0, .int .i64 a0_1) (by simp)⟩
             have BK215 : Aside0 (v12.heap[(w.heap.size + 1)]? = some (.cells #[.int .i64 a1_0, .int .i64 a1_1] 23 (0, 0))) := ⟨HX12.out ((w.heap.size + 1), .int .i64 a1_0, .int .i64 a1_1) (by simp)⟩
             have BK220 : Aside0 (v12.heap[gb220]? = some (.cells #[.int .i64 t217, .int .i64 t218] 23 (0, 0))) := ⟨HX12.out (gb220, .int .i64 t217, .int .i64 t218) (by simp)⟩
             have BK224 : Aside0 (v12.heap[gb224]? = some (.cells #[.int .i64 t221, .int .i64 t222] 23 (0, 0))) := ⟨HX12.out (gb224, .int .i64 t221, .int .i64 t222) (by simp)⟩
             have BK228 : Aside0 (v12.heap[gb228]? = some (.cells #[.int .i64 t225, .int .i64 t226] 23 (0, 0))) := ⟨HX12.out (gb228, .int .i64 t225, .int .i64 t226) (by simp)⟩
             have BK232 : Aside0 (v12.heap[gb232]? = some (.cells #[.int .i64 t229, .int .i64 t230] 23 (0, 0))) := ⟨HX12.out (gb232, .int .i64 t229, .int .i64 t230) (by simp)⟩
             have BK236 : Aside0 (v12.heap[gb236]? = some (.cells #[.int .i64 t233, .int .i64 t234] 23 (0, 0))) := ⟨HX12.out (gb236, .int .i64 t233, .int .i64 t234) (by simp)⟩
             have BK240 : Aside0 (v12.heap[gb240]? = some (.cells #[.int .i64 t237, .int .i64 t238] 23 (0, 0))) := ⟨HX12.out (gb240, .int .i64 t237, .int .i64 t238) (by simp)⟩
             have BK244 : Aside0 (v12.heap[gb244]? = some (.cells #[.int .i64 t241, .int .i64 t242] 23 (0, 0))) := ⟨HX12.out (gb244, .int .i64 t241, .int .i64 t242) (by simp)⟩
             have BK248 : Aside0 (v12.heap[gb248]? = some (.cells #[.int .i64 t245, .int .i64 t246] 23 (0, 0))) := ⟨HX12.out (gb248, .int .i64 t245, .int .i64 t246) (by simp)⟩
             have BK254 : Aside0 (v12.heap[gb254]? = some (.cells #[.int .i64 t249, .int .i64 t250] 23 (0, 0))) := ⟨HX12.out (gb254, .int .i64 t249, .int .i64 t250) (by simp)⟩
             have BK255 : Aside0 (v12.heap[gb255]? = some (.cells #[.int .i64 t251, .int .i64 t252] 23 (0, 0))) := ⟨HX12.out (gb255, .int .i64 t251, .int .i64 t252) (by simp)⟩
             have BK261 : Aside0 (v12.heap[gb261]? = some (.cells #[.int .i64 t256, .int .i64 t257] 23 (0, 0))) := ⟨HX12.out (gb261, .int .i64 t256, .int .i64 t257) (by simp)⟩
             have BK262 : Aside0 (v12.heap[gb262]? = some (.cells #[.int .i64 t258, .int .i64 t259] 23 (0, 0))) := ⟨HX12.out (gb262, .int .i64 t258, .int .i64 t259) (by simp)⟩
             have HB : Aside0 (Below w.heap.size w v12) := HB12
             clear HX12 HB12
             have n0_ := Aside0.mk (blk_drew BK214.out)
             have n1_ := Aside0.mk (blk_drew BK215.out)
             have n2_ := Aside0.mk (blk_drew BK220.out)
             have n3_ := Aside0.mk (blk_drew BK224.out)
             have n4_ := Aside0.mk (blk_drew BK228.out)
             have n5_ := Aside0.mk (blk_drew BK232.out)
             have n6_ := Aside0.mk (blk_drew BK236.out)
             have n7_ := Aside0.mk (blk_drew BK240.out)
             have n8_ := Aside0.mk (blk_drew BK244.out)
             have n9_ := Aside0.mk (blk_drew BK248.out)
             have n10_ := Aside0.mk (blk_drew BK254.out)
             have n11_ := Aside0.mk (blk_drew BK255.out)
             have n12_ := Aside0.mk (blk_drew BK261.out)
             have n13_ := Aside0.mk (blk_drew BK262.out)
             have n14_ := Aside0.mk (below_drew1 HB.out)
             clear BK214
             clear BK215
             clear BK220
             clear BK224
             clear BK228
             clear BK232
             clear BK236
             clear BK240
             clear BK244
             clear BK248
             clear BK254
             clear BK255
             clear BK261
             clear BK262
             clear HB
             have BK214 := n0_
             have BK215 := n1_
             have BK220 := n2_
             have BK224 := n3_
             have BK228 := n4_
             have BK232 := n5_
             have BK236 := n6_
             have BK240 := n7_
             have BK244 := n8_
             have BK248 := n9_
             have BK254 := n10_
             have BK255 := n11_
             have BK261 := n12_
             have BK262 := n13_
             have HB := n14_
             clear n0_ n1_ n2_ n3_ n4_ n5_ n6_ n7_ n8_ n9_ n10_ n11_ n12_ n13_ n14_
             refine start_ (n := 64) (S := fun w' => w'.cell? ⟨(w.heap.size), 0, none⟩ = some (.int .i64 a0_0) ∧ w'.cell? ⟨(w.heap.size), 1, none⟩ = some (.int .i64 a0_1) ∧ w'.cell? ⟨gb220, 0, none⟩ = some (.int .i64 t217) ∧ w'.cell? ⟨gb220, 1, none⟩ = some (.int .i64 t218) ∧ w'.cell? ⟨gb224, 0, none⟩ = some (.int .i64 t221) ∧ w'.cell? ⟨gb224, 1, none⟩ = some (.int .i64 t222) ∧ w'.cell? ⟨gb228, 0, none⟩ = some (.int .i64 t225) ∧ w'.cell? ⟨gb228, 1, none⟩ = some (.int .i64 t226) ∧ w'.cell? ⟨gb232, 0, none⟩ = some (.int .i64 t229) ∧ w'.cell? ⟨gb232, 1, none⟩ = some (.int .i64 t230) ∧ w'.cell? ⟨gb236, 0, none⟩ = some (.int .i64 t233) ∧ w'.cell? ⟨gb236, 1, none⟩ = some (.int .i64 t234) ∧ w'.cell? ⟨gb240, 0, none⟩ = some (.int .i64 t237) ∧ w'.cell? ⟨gb240, 1, none⟩ = some (.int .i64 t238) ∧ w'.cell? ⟨gb244, 0, none⟩ = some (.int .i64 t241) ∧ w'.cell? ⟨gb244, 1, none⟩ = some (.int .i64 t242) ∧ w'.cell? ⟨gb248, 0, none⟩ = some (.int .i64 t245) ∧ w'.cell? ⟨gb248, 1, none⟩ = some (.int .i64 t246) ∧ w'.cell? ⟨gb254, 0, none⟩ = some (.int .i64 t249) ∧ w'.cell? ⟨gb254, 1, none⟩ = some (.int .i64 t250) ∧ w'.cell? ⟨gb261, 0, none⟩ = some (.int .i64 t256) ∧ w'.cell? ⟨gb261, 1, none⟩ = some (.int .i64 t257) ∧ w'.cell? ⟨gb255, 0, none⟩ = some (.int .i64 t251) ∧ w'.cell? ⟨gb255, 1, none⟩ = some (.int .i64 t252) ∧ w'.cell? ⟨gb262, 0, none⟩ = some (.int .i64 t258) ∧ w'.cell? ⟨gb262, 1, none⟩ = some (.int .i64 t259)) (ds := []) #[false, false, false, false, false, false, false, false, false, false, false, false, false, false, false, false, false, false, false, false, false, false, false, false, false, false, false, false, false, false, false, false, false, false, false, false, false, false, false, false, false, false, false, false, false, false, false, false, false, false, false, false, false, false, false, false, false, false, false, false, false, false, false, false] (by kernel_rfl) rfl rfl ⟨(blk_cell BK214.out 0).trans rfl, (blk_cell BK214.out 1).trans rfl, (blk_cell BK220.out 0).trans rfl, (blk_cell BK220.out 1).trans rfl, (blk_cell BK224.out 0).trans rfl, (blk_cell BK224.out 1).trans rfl, (blk_cell BK228.out 0).trans rfl, (blk_cell BK228.out 1).trans rfl, (blk_cell BK232.out 0).trans rfl, (blk_cell BK232.out 1).trans rfl, (blk_cell BK236.out 0).trans rfl, (blk_cell BK236.out 1).trans rfl, (blk_cell BK240.out 0).trans rfl, (blk_cell BK240.out 1).trans rfl, (blk_cell BK244.out 0).trans rfl, (blk_cell BK244.out 1).trans rfl, (blk_cell BK248.out 0).trans rfl, (blk_cell BK248.out 1).trans rfl, (blk_cell BK254.out 0).trans rfl, (blk_cell BK254.out 1).trans rfl, (blk_cell BK261.out 0).trans rfl, (blk_cell BK261.out 1).trans rfl, (blk_cell BK255.out 0).trans rfl, (blk_cell BK255.out 1).trans rfl, (blk_cell BK262.out 0).trans rfl, (blk_cell BK262.out 1).trans rfl⟩ (fun hHeld => ?_); refine with_tabW bazaarlaw13_AccountsDo.tab12 bazaarlaw13_AccountsDo.bits12 (fun HT_ HW_ => ?_)
             generalize v12.drew = w170 at BK214 BK215 BK220 BK224 BK228 BK232 BK236 BK240 BK244 BK248 BK254 BK255 BK261 BK262 HB hHeld ⊢
             refine pure_ (i := 0) (N := some 95) (v := ?_) (a' := ?_) #[true, false, false, false, false, false, false, false, false, false, false, false, false, false, false, false, false, false, false, false, false, false, false, false, false, false, false, false, false, false, false, false, false, false, false, false, false, false, false, false, false, false, false, false, false, false, false, false, false, false, false, false, false, false, false, false, false, false, false, false, false, false, false, false] rfl rfl (any_of HT_.out (by kernel_rfl)) (fun _ _ _ h => h) (Or.inl ⟨by rfl, ?_⟩) ?_ ?_
             rotate_left
             ·intro w'
              go_simp
              with_reducible rfl
             rotate_left
             ·simp only [Act.put, List.setIfInBounds_toArray, List.set_cons_zero, List.set_cons_succ, i64_w, i32_w]
              rfl
             refine pure_ (i := 1) (N := some 96) (v := ?_) (a' := ?_) #[true, true, false, false, false, false, false, false, false, false, false, false, false, false, false, false, false, false, false, false, false, false, false, false, false, false, false, false, false, false, false, false, false, false, false, false, false, false, false, false, false, false, false, false, false, false, false, false, false, false, false, false, false, false, false, false, false, false, false, false, false, false, false, false] rfl rfl (any_of HT_.out (by kernel_rfl)) (fun _ _ _ h => h) (Or.inl ⟨by rfl, ?_⟩) ?_ ?_
             rotate_left
             ·intro w'
              go_simp
              with_reducible rfl
             rotate_left
             ·simp only [Act.put, List.setIfInBounds_toArray, List.set_cons_zero, List.set_cons_succ, i64_w, i32_w]
              rfl
             refine take_ (i := 2) (N := some 97) (v := ?_) (a' := ?_) #[true, true, true, false, false, false, false, false, false, false, false, false, false, false, false, false, false, false, false, false, false, false, false, false, false, false, false, false, false, false, false, false, false, false, false, false, false, false, false, false, false, false, false, false, false, false, false, false, false, false, false, false, false, false, false, false, false, false, false, false, false, false, false, false] rfl rfl (take_ofW HT_.out HW_.out (by kernel_rfl)) (fun _ _ _ h => h) (Or.inl ⟨by rfl, ?_⟩) hHeld ?_ ?_
             rotate_left
             ·rintro w' ⟨s0, s1, s2, s3, s4, s5, s6, s7, s8, s9, s10, s11, s12, s13, s14, s15, s16, s17, s18, s19, s20, s21, s22, s23, s24, s25⟩
              go_simp
              with_reducible rfl
             rotate_left
             ·simp only [Act.put, List.setIfInBounds_toArray, List.set_cons_zero, List.set_cons_succ, i64_w, i32_w]
              rfl
             refine take_ (i := 4) (N := some 99) (v := ?_) (a' := ?_) #[true, true, true, false, true, false, false, false, false, false, false, false, false, false, false, false, false, false, false, false, false, false, false, false, false, false, false, false, false, false, false, false, false, false, false, false, false, false, false, false, false, false, false, false, false, false, false, false, false, false, false, false, false, false, false, false, false, false, false, false, false, false, false, false] rfl rfl (take_ofW HT_.out HW_.out (by kernel_rfl)) (fun _ _ _ h => h) (Or.inl ⟨by rfl, ?_⟩) hHeld ?_ ?_
             rotate_left
             ·rintro w' ⟨s0, s1, s2, s3, s4, s5, s6, s7, s8, s9, s10, s11, s12, s13, s14, s15, s16, s17, s18, s19, s20, s21, s22, s23, s24, s25⟩
              go_simp
              with_reducible rfl
             rotate_left
             ·simp only [Act.put, List.setIfInBounds_toArray, List.set_cons_zero, List.set_cons_succ, i64_w, i32_w]
              rfl
             refine one_ (i := 3) (N := some 98) #[true, true, true, true, true, false, false, false, false, false, false, false, false, false, false, false, false, false, false, false, false, false, false, false, false, false, false, false, false, false, false, false, false, false, false, false, false, false, false, false, false, false, false, false, false, false, false, false, false, false, false, false, false, false, false, false, false, false, false, false, false, false, false, false] rfl rfl (one_of HT_.out (by kernel_rfl)) (by decide) (fun K hK => ?_)
             refine goes_ Tryd.func26 (by kernel_rfl) rfl #[.agg #[.int .i64 a0_0, .int .i64 a0_1]] (by rfl) rfl rfl (by (try simp only [List.map_toArray, List.map_cons, List.map_nil]); first | done | rfl | (simp only [List.length_drop, List.length_take]; rfl)) ?_
             with_reducible refine (accounts_Right.calls a0_0 a0_1 t263 _ ?side1 A16.out).mono ?_
             (case side1 => exact Laid_below HLD.out (by repeat (first | (with_reducible first | exact HB.out | apply below_alloc | apply pw_below_drewN | apply below_drew1 | refine below_set ?_ GE214.out | refine below_set ?_ GE215.out | refine below_set ?_ GE220.out | refine below_set ?_ GE224.out | refine below_set ?_ GE228.out | refine below_set ?_ GE232.out | refine below_set ?_ GE236.out | refine below_set ?_ GE240.out | refine below_set ?_ GE244.out | refine below_set ?_ GE248.out | refine below_set ?_ GE254.out | refine below_set ?_ GE255.out | refine below_set ?_ GE261.out | refine below_set ?_ GE262.out) | exact HB.out)))
             rintro e w171 ⟨rfl, hb⟩
             refine ⟨_, rfl, ?_⟩
             have n0_ := Aside0.mk (blk_below (g := (w.heap.size)) (o := .cells #[.int .i64 a0_0, .int .i64 a0_1] 23 (0, 0)) (by (with_reducible repeat (first | refine blk_drewN ?_ _ | refine blk_drew ?_ | refine blk_alloc ?_ _)); exact BK214.out) hb)
             have n1_ := Aside0.mk (blk_below (g := (w.heap.size + 1)) (o := .cells #[.int .i64 a1_0, .int .i64 a1_1] 23 (0, 0)) (by (with_reducible repeat (first | refine blk_drewN ?_ _ | refine blk_drew ?_ | refine blk_alloc ?_ _)); exact BK215.out) hb)
             have n2_ := Aside0.mk (blk_below (g := gb220) (o := .cells #[.int .i64 t217, .int .i64 t218] 23 (0, 0)) (by (with_reducible repeat (first | refine blk_drewN ?_ _ | refine blk_drew ?_ | refine blk_alloc ?_ _)); exact BK220.out) hb)
             have n3_ := Aside0.mk (blk_below (g := gb224) (o := .cells #[.int .i64 t221, .int .i64 t222] 23 (0, 0)) (by (with_reducible repeat (first | refine blk_drewN ?_ _ | refine blk_drew ?_ | refine blk_alloc ?_ _)); exact BK224.out) hb)
             have n4_ := Aside0.mk (blk_below (g := gb228) (o := .cells #[.int .i64 t225, .int .i64 t226] 23 (0, 0)) (by (with_reducible repeat (first | refine blk_drewN ?_ _ | refine blk_drew ?_ | refine blk_alloc ?_ _)); exact BK228.out) hb)
             have n5_ := Aside0.mk (blk_below (g := gb232) (o := .cells #[.int .i64 t229, .int .i64 t230] 23 (0, 0)) (by (with_reducible repeat (first | refine blk_drewN ?_ _ | refine blk_drew ?_ | refine blk_alloc ?_ _)); exact BK232.out) hb)
             have n6_ := Aside0.mk (blk_below (g := gb236) (o := .cells #[.int .i64 t233, .int .i64 t234] 23 (0, 0)) (by (with_reducible repeat (first | refine blk_drewN ?_ _ | refine blk_drew ?_ | refine blk_alloc ?_ _)); exact BK236.out) hb)
             have n7_ := Aside0.mk (blk_below (g := gb240) (o := .cells #[.int .i64 t237, .int .i64 t238] 23 (0, 0)) (by (with_reducible repeat (first | refine blk_drewN ?_ _ | refine blk_drew ?_ | refine blk_alloc ?_ _)); exact BK240.out) hb)
             have n8_ := Aside0.mk (blk_below (g := gb244) (o := .cells #[.int .i64 t241, .int .i64 t242] 23 (0, 0)) (by (with_reducible repeat (first | refine blk_drewN ?_ _ | refine blk_drew ?_ | refine blk_alloc ?_ _)); exact BK244.out) hb)
             have n9_ := Aside0.mk (blk_below (g := gb248) (o := .cells #[.int .i64 t245, .int .i64 t246] 23 (0, 0)) (by (with_reducible repeat (first | refine blk_drewN ?_ _ | refine blk_drew ?_ | refine blk_alloc ?_ _)); exact BK248.out) hb)
             have n10_ := Aside0.mk (blk_below (g := gb254) (o := .cells #[.int .i64 t249, .int .i64 t250] 23 (0, 0)) (by (with_reducible repeat (first | refine blk_drewN ?_ _ | refine blk_drew ?_ | refine blk_alloc ?_ _)); exact BK254.out) hb)
             have n11_ := Aside0.mk (blk_below (g := gb255) (o := .cells #[.int .i64 t251, .int .i64 t252] 23 (0, 0)) (by (with_reducible repeat (first | refine blk_drewN ?_ _ | refine blk_drew ?_ | refine blk_alloc ?_ _)); exact BK255.out) hb)
             have n12_ := Aside0.mk (blk_below (g := gb261) (o := .cells #[.int .i64 t256, .int .i64 t257] 23 (0, 0)) (by (with_reducible repeat (first | refine blk_drewN ?_ _ | refine blk_drew ?_ | refine blk_alloc ?_ _)); exact BK261.out) hb)
             have n13_ := Aside0.mk (blk_below (g := gb262) (o := .cells #[.int .i64 t258, .int .i64 t259] 23 (0, 0)) (by (with_reducible repeat (first | refine blk_drewN ?_ _ | refine blk_drew ?_ | refine blk_alloc ?_ _)); exact BK262.out) hb)
             have n14_ := Aside0.mk (below_step (by repeat (first | (with_reducible first | exact HB.out | apply below_alloc | apply pw_below_drewN | apply below_drew1 | refine below_set ?_ GE214.out | refine below_set ?_ GE215.out | refine below_set ?_ GE220.out | refine below_set ?_ GE224.out | refine below_set ?_ GE228.out | refine below_set ?_ GE232.out | refine below_set ?_ GE236.out | refine below_set ?_ GE240.out | refine below_set ?_ GE244.out | refine below_set ?_ GE248.out | refine below_set ?_ GE254.out | refine below_set ?_ GE255.out | refine below_set ?_ GE261.out | refine below_set ?_ GE262.out) | exact HB.out)) hb)
             clear BK214
             clear BK215
             clear BK220
             clear BK224
             clear BK228
             clear BK232
             clear BK236
             clear BK240
             clear BK244
             clear BK248
             clear BK254
             clear BK255
             clear BK261
             clear BK262
             clear HB
             have BK214 := n0_
             have BK215 := n1_
             have BK220 := n2_
             have BK224 := n3_
             have BK228 := n4_
             have BK232 := n5_
             have BK236 := n6_
             have BK240 := n7_
             have BK244 := n8_
             have BK248 := n9_
             have BK254 := n10_
             have BK255 := n11_
             have BK261 := n12_
             have BK262 := n13_
             have HB := n14_
             clear n0_ n1_ n2_ n3_ n4_ n5_ n6_ n7_ n8_ n9_ n10_ n11_ n12_ n13_ n14_
             (try clear hb)
             (try clear hb2)
             (try clear hk)
             (try clear hi)
             refine hK.out _ _ ⟨(blk_cell BK214.out 0).trans rfl, (blk_cell BK214.out 1).trans rfl, (blk_cell BK220.out 0).trans rfl, (blk_cell BK220.out 1).trans rfl, (blk_cell BK224.out 0).trans rfl, (blk_cell BK224.out 1).trans rfl, (blk_cell BK228.out 0).trans rfl, (blk_cell BK228.out 1).trans rfl, (blk_cell BK232.out 0).trans rfl, (blk_cell BK232.out 1).trans rfl, (blk_cell BK236.out 0).trans rfl, (blk_cell BK236.out 1).trans rfl, (blk_cell BK240.out 0).trans rfl, (blk_cell BK240.out 1).trans rfl, (blk_cell BK244.out 0).trans rfl, (blk_cell BK244.out 1).trans rfl, (blk_cell BK248.out 0).trans rfl, (blk_cell BK248.out 1).trans rfl, (blk_cell BK254.out 0).trans rfl, (blk_cell BK254.out 1).trans rfl, (blk_cell BK261.out 0).trans rfl, (blk_cell BK261.out 1).trans rfl, (blk_cell BK255.out 0).trans rfl, (blk_cell BK255.out 1).trans rfl, (blk_cell BK262.out 0).trans rfl, (blk_cell BK262.out 1).trans rfl⟩ (fun hHeld => ?_)
             clear hK K
             refine norm_ (a' := ?_) ?_ ?_
             rotate_left
             ·show Act.put _ (some 98) _ = _
              simp only [Act.put, List.setIfInBounds_toArray, List.set_cons_zero, List.set_cons_succ, i64_w, i32_w]
              rfl
             refine one_ (i := 5) (N := some 100) #[true, true, true, true, true, true, false, false, false, false, false, false, false, false, false, false, false, false, false, false, false, false, false, false, false, false, false, false, false, false, false, false, false, false, false, false, false, false, false, false, false, false, false, false, false, false, false, false, false, false, false, false, false, false, false, false, false, false, false, false, false, false, false, false] rfl rfl (one_of HT_.out (by kernel_rfl)) (by decide) (fun K hK => ?_)
             refine goes_ Tryd.func27 (by kernel_rfl) rfl #[.agg #[.int .i64 a0_0, .int .i64 a0_1]] (by rfl) rfl rfl (by (try simp only [List.map_toArray, List.map_cons, List.map_nil]); first | done | rfl | (simp only [List.length_drop, List.length_take]; rfl)) ?_
             with_reducible refine (bazaarref13_Right.calls k a0_0 a0_1 t264 _ ?side1 A17.out).mono ?_
             (case side1 => exact Laid_below HLD.out (by repeat (first | (with_reducible first | exact HB.out | apply below_alloc | apply pw_below_drewN | apply below_drew1 | refine below_set ?_ GE214.out | refine below_set ?_ GE215.out | refine below_set ?_ GE220.out | refine below_set ?_ GE224.out | refine below_set ?_ GE228.out | refine below_set ?_ GE232.out | refine below_set ?_ GE236.out | refine below_set ?_ GE240.out | refine below_set ?_ GE244.out | refine below_set ?_ GE248.out | refine below_set ?_ GE254.out | refine below_set ?_ GE255.out | refine below_set ?_ GE261.out | refine below_set ?_ GE262.out) | exact HB.out)))
             rintro e w172 ⟨rfl, hb⟩
             refine ⟨_, rfl, ?_⟩
             have n0_ := Aside0.mk (blk_below (g := (w.heap.size)) (o := .cells #[.int .i64 a0_0, .int .i64 a0_1] 23 (0, 0)) (by (with_reducible repeat (first | refine blk_drewN ?_ _ | refine blk_drew ?_ | refine blk_alloc ?_ _)); exact BK214.out) hb)
             have n1_ := Aside0.mk (blk_below (g := (w.heap.size + 1)) (o := .cells #[.int .i64 a1_0, .int .i64 a1_1] 23 (0, 0)) (by (with_reducible repeat (first | refine blk_drewN ?_ _ | refine blk_drew ?_ | refine blk_alloc ?_ _)); exact BK215.out) hb)
             have n2_ := Aside0.mk (blk_below (g := gb220) (o := .cells #[.int .i64 t217, .int .i64 t218] 23 (0, 0)) (by (with_reducible repeat (first | refine blk_drewN ?_ _ | refine blk_drew ?_ | refine blk_alloc ?_ _)); exact BK220.out) hb)
             have n3_ := Aside0.mk (blk_below (g := gb224) (o := .cells #[.int .i64 t221, .int .i64 t222] 23 (0, 0)) (by (with_reducible repeat (first | refine blk_drewN ?_ _ | refine blk_drew ?_ | refine blk_alloc ?_ _)); exact BK224.out) hb)
             have n4_ := Aside0.mk (blk_below (g := gb228) (o := .cells #[.int .i64 t225, .int .i64 t226] 23 (0, 0)) (by (with_reducible repeat (first | refine blk_drewN ?_ _ | refine blk_drew ?_ | refine blk_alloc ?_ _)); exact BK228.out) hb)
             have n5_ := Aside0.mk (blk_below (g := gb232) (o := .cells #[.int .i64 t229, .int .i64 t230] 23 (0, 0)) (by (with_reducible repeat (first | refine blk_drewN ?_ _ | refine blk_drew ?_ | refine blk_alloc ?_ _)); exact BK232.out) hb)
             have n6_ := Aside0.mk (blk_below (g := gb236) (o := .cells #[.int .i64 t233, .int .i64 t234] 23 (0, 0)) (by (with_reducible repeat (first | refine blk_drewN ?_ _ | refine blk_drew ?_ | refine blk_alloc ?_ _)); exact BK236.out) hb)
             have n7_ := Aside0.mk (blk_below (g := gb240) (o := .cells #[.int .i64 t237, .int .i64 t238] 23 (0, 0)) (by (with_reducible repeat (first | refine blk_drewN ?_ _ | refine blk_drew ?_ | refine blk_alloc ?_ _)); exact BK240.out) hb)
             have n8_ := Aside0.mk (blk_below (g := gb244) (o := .cells #[.int .i64 t241, .int .i64 t242] 23 (0, 0)) (by (with_reducible repeat (first | refine blk_drewN ?_ _ | refine blk_drew ?_ | refine blk_alloc ?_ _)); exact BK244.out) hb)
             have n9_ := Aside0.mk (blk_below (g := gb248) (o := .cells #[.int .i64 t245, .int .i64 t246] 23 (0, 0)) (by (with_reducible repeat (first | refine blk_drewN ?_ _ | refine blk_drew ?_ | refine blk_alloc ?_ _)); exact BK248.out) hb)
             have n10_ := Aside0.mk (blk_below (g := gb254) (o := .cells #[.int .i64 t249, .int .i64 t250] 23 (0, 0)) (by (with_reducible repeat (first | refine blk_drewN ?_ _ | refine blk_drew ?_ | refine blk_alloc ?_ _)); exact BK254.out) hb)
             have n11_ := Aside0.mk (blk_below (g := gb255) (o := .cells #[.int .i64 t251, .int .i64 t252] 23 (0, 0)) (by (with_reducible repeat (first | refine blk_drewN ?_ _ | refine blk_drew ?_ | refine blk_alloc ?_ _)); exact BK255.out) hb)
             have n12_ := Aside0.mk (blk_below (g := gb261) (o := .cells #[.int .i64 t256, .int .i64 t257] 23 (0, 0)) (by (with_reducible repeat (first | refine blk_drewN ?_ _ | refine blk_drew ?_ | refine blk_alloc ?_ _)); exact BK261.out) hb)
             have n13_ := Aside0.mk (blk_below (g := gb262) (o := .cells #[.int .i64 t258, .int .i64 t259] 23 (0, 0)) (by (with_reducible repeat (first | refine blk_drewN ?_ _ | refine blk_drew ?_ | refine blk_alloc ?_ _)); exact BK262.out) hb)
             have n14_ := Aside0.mk (below_step (by repeat (first | (with_reducible first | exact HB.out | apply below_alloc | apply pw_below_drewN | apply below_drew1 | refine below_set ?_ GE214.out | refine below_set ?_ GE215.out | refine below_set ?_ GE220.out | refine below_set ?_ GE224.out | refine below_set ?_ GE228.out | refine below_set ?_ GE232.out | refine below_set ?_ GE236.out | refine below_set ?_ GE240.out | refine below_set ?_ GE244.out | refine below_set ?_ GE248.out | refine below_set ?_ GE254.out | refine below_set ?_ GE255.out | refine below_set ?_ GE261.out | refine below_set ?_ GE262.out) | exact HB.out)) hb)
             clear BK214
             clear BK215
             clear BK220
             clear BK224
             clear BK228
             clear BK232
             clear BK236
             clear BK240
             clear BK244
             clear BK248
             clear BK254
             clear BK255
             clear BK261
             clear BK262
             clear HB
             have BK214 := n0_
             have BK215 := n1_
             have BK220 := n2_
             have BK224 := n3_
             have BK228 := n4_
             have BK232 := n5_
             have BK236 := n6_
             have BK240 := n7_
             have BK244 := n8_
             have BK248 := n9_
             have BK254 := n10_
             have BK255 := n11_
             have BK261 := n12_
             have BK262 := n13_
             have HB := n14_
             clear n0_ n1_ n2_ n3_ n4_ n5_ n6_ n7_ n8_ n9_ n10_ n11_ n12_ n13_ n14_
             (try clear hb)
             (try clear hb2)
             (try clear hk)
             (try clear hi)
             refine hK.out _ _ ⟨(blk_cell BK214.out 0).trans rfl, (blk_cell BK214.out 1).trans rfl, (blk_cell BK220.out 0).trans rfl, (blk_cell BK220.out 1).trans rfl, (blk_cell BK224.out 0).trans rfl, (blk_cell BK224.out 1).trans rfl, (blk_cell BK228.out 0).trans rfl, (blk_cell BK228.out 1).trans rfl, (blk_cell BK232.out 0).trans rfl, (blk_cell BK232.out 1).trans rfl, (blk_cell BK236.out 0).trans rfl, (blk_cell BK236.out 1).trans rfl, (blk_cell BK240.out 0).trans rfl, (blk_cell BK240.out 1).trans rfl, (blk_cell BK244.out 0).trans rfl, (blk_cell BK244.out 1).trans rfl, (blk_cell BK248.out 0).trans rfl, (blk_cell BK248.out 1).trans rfl, (blk_cell BK254.out 0).trans rfl, (blk_cell BK254.out 1).trans rfl, (blk_cell BK261.out 0).trans rfl, (blk_cell BK261.out 1).trans rfl, (blk_cell BK255.out 0).trans rfl, (blk_cell BK255.out 1).trans rfl, (blk_cell BK262.out 0).trans rfl, (blk_cell BK262.out 1).trans rfl⟩ (fun hHeld => ?_)
             clear hK K
             refine norm_ (a' := ?_) ?_ ?_
             rotate_left
             ·show Act.put _ (some 100) _ = _
              simp only [Act.put, List.setIfInBounds_toArray, List.set_cons_zero, List.set_cons_succ, i64_w, i32_w]
              rfl
             refine pure_ (i := 6) (N := some 101) (v := ?_) (a' := ?_) #[true, true, true, true, true, true, true, false, false, false, false, false, false, false, false, false, false, false, false, false, false, false, false, false, false, false, false, false, false, false, false, false, false, false, false, false, false, false, false, false, false, false, false, false, false, false, false, false, false, false, false, false, false, false, false, false, false, false, false, false, false, false, false, false] rfl rfl (any_of HT_.out (by kernel_rfl)) (fun _ _ _ h => h) (Or.inl ⟨by rfl, ?_⟩) ?_ ?_
             rotate_left
             ·intro w'
              go_simp
              with_reducible rfl
             rotate_left
             ·simp only [Act.put, List.setIfInBounds_toArray, List.set_cons_zero, List.set_cons_succ, i64_w, i32_w]
              rfl
             refine pure_ (i := 7) (N := some 102) (v := ?_) (a' := ?_) #[true, true, true, true, true, true, true, true, false, false, false, false, false, false, false, false, false, false, false, false, false, false, false, false, false, false, false, false, false, false, false, false, false, false, false, false, false, false, false, false, false, false, false, false, false, false, false, false, false, false, false, false, false, false, false, false, false, false, false, false, false, false, false, false] rfl rfl (any_of HT_.out (by kernel_rfl)) (fun _ _ _ h => h) (Or.inl ⟨by rfl, ?_⟩) ?_ ?_
             rotate_left
             ·intro w'
              go_simp
              with_reducible rfl
             rotate_left
             ·simp only [Act.put, List.setIfInBounds_toArray, List.set_cons_zero, List.set_cons_succ, i64_w, i32_w]
              rfl
             refine pure_ (i := 8) (N := some 103) (v := ?_) (a' := ?_) #[true, true, true, true, true, true, true, true, true, false, false, false, false, false, false, false, false, false, false, false, false, false, false, false, false, false, false, false, false, false, false, false, false, false, false, false, false, false, false, false, false, false, false, false, false, false, false, false, false, false, false, false, false, false, false, false, false, false, false, false, false, false, false, false] rfl rfl (any_of HT_.out (by kernel_rfl)) (fun _ _ _ h => h) (Or.inl ⟨by rfl, ?_⟩) ?_ ?_
             rotate_left
             ·intro w'
              go_simp
              with_reducible rfl
             rotate_left
             ·simp only [Act.put, List.setIfInBounds_toArray, List.set_cons_zero, List.set_cons_succ, i64_w, i32_w]
              rfl
             refine take_ (i := 9) (N := some 104) (v := ?_) (a' := ?_) #[true, true, true, true, true, true, true, true, true, true, false, false, false, false, false, false, false, false, false, false, false, false, false, false, false, false, false, false, false, false, false, false, false, false, false, false, false, false, false, false, false, false, false, false, false, false, false, false, false, false, false, false, false, false, false, false, false, false, false, false, false, false, false, false] rfl rfl (take_ofW HT_.out HW_.out (by kernel_rfl)) (fun _ _ _ h => h) (Or.inl ⟨by rfl, ?_⟩) hHeld ?_ ?_
             rotate_left
             ·rintro w' ⟨s0, s1, s2, s3, s4, s5, s6, s7, s8, s9, s10, s11, s12, s13, s14, s15, s16, s17, s18, s19, s20, s21, s22, s23, s24, s25⟩
              go_simp
              with_reducible rfl
             rotate_left
             ·simp only [Act.put, List.setIfInBounds_toArray, List.set_cons_zero, List.set_cons_succ, i64_w, i32_w]
              rfl
             refine take_ (i := 10) (N := some 105) (v := ?_) (a' := ?_) #[true, true, true, true, true, true, true, true, true, true, true, false, false, false, false, false, false, false, false, false, false, false, false, false, false, false, false, false, false, false, false, false, false, false, false, false, false, false, false, false, false, false, false, false, false, false, false, false, false, false, false, false, false, false, false, false, false, false, false, false, false, false, false, false] rfl rfl (take_ofW HT_.out HW_.out (by kernel_rfl)) (fun _ _ _ h => h) (Or.inl ⟨by rfl, ?_⟩) hHeld ?_ ?_
             rotate_left
             ·rintro w' ⟨s0, s1, s2, s3, s4, s5, s6, s7, s8, s9, s10, s11, s12, s13, s14, s15, s16, s17, s18, s19, s20, s21, s22, s23, s24, s25⟩
              go_simp
              with_reducible rfl
             rotate_left
             ·simp only [Act.put, List.setIfInBounds_toArray, List.set_cons_zero, List.set_cons_succ, i64_w, i32_w]
              rfl
             refine pure_ (i := 11) (N := some 106) (v := ?_) (a' := ?_) #[true, true, true, true, true, true, true, true, true, true, true, true, false, false, false, false, false, false, false, false, false, false, false, false, false, false, false, false, false, false, false, false, false, false, false, false, false, false, false, false, false, false, false, false, false, false, false, false, false, false, false, false, false, false, false, false, false, false, false, false, false, false, false, false] rfl rfl (any_of HT_.out (by kernel_rfl)) (fun _ _ _ h => h) (Or.inl ⟨by rfl, ?_⟩) ?_ ?_
             rotate_left
             ·intro w'
              go_simp
              with_reducible rfl
             rotate_left
             ·simp only [Act.put, List.setIfInBounds_toArray, List.set_cons_zero, List.set_cons_succ, i64_w, i32_w]
              rfl
             refine pure_ (i := 12) (N := some 107) (v := ?_) (a' := ?_) #[true, true, true, true, true, true, true, true, true, true, true, true, true, false, false, false, false, false, false, false, false, false, false, false, false, false, false, false, false, false, false, false, false, false, false, false, false, false, false, false, false, false, false, false, false, false, false, false, false, false, false, false, false, false, false, false, false, false, false, false, false, false, false, false] rfl rfl (any_of HT_.out (by kernel_rfl)) (fun _ _ _ h => h) (Or.inl ⟨by rfl, ?_⟩) ?_ ?_
             rotate_left
             ·intro w'
              go_simp
              with_reducible rfl
             rotate_left
             ·simp only [Act.put, List.setIfInBounds_toArray, List.set_cons_zero, List.set_cons_succ, i64_w, i32_w]
              rfl
             refine pure_ (i := 13) (N := some 108) (v := ?_) (a' := ?_) #[true, true, true, true, true, true, true, true, true, true, true, true, true, true, false, false, false, false, false, false, false, false, false, false, false, false, false, false, false, false, false, false, false, false, false, false, false, false, false, false, false, false, false, false, false, false, false, false, false, false, false, false, false, false, false, false, false, false, false, false, false, false, false, false] rfl rfl (any_of HT_.out (by kernel_rfl)) (fun _ _ _ h => h) (Or.inl ⟨by rfl, ?_⟩) ?_ ?_
             rotate_left
             ·intro w'
              go_simp
              with_reducible rfl
             rotate_left
             ·simp only [Act.put, List.setIfInBounds_toArray, List.set_cons_zero, List.set_cons_succ, i64_w, i32_w]
              rfl
             refine pure_ (i := 14) (N := some 109) (v := ?_) (a' := ?_) #[true, true, true, true, true, true, true, true, true, true, true, true, true, true, true, false, false, false, false, false, false, false, false, false, false, false, false, false, false, false, false, false, false, false, false, false, false, false, false, false, false, false, false, false, false, false, false, false, false, false, false, false, false, false, false, false, false, false, false, false, false, false, false, false] rfl rfl (any_of HT_.out (by kernel_rfl)) (fun _ _ _ h => h) (Or.inl ⟨by rfl, ?_⟩) ?_ ?_
             rotate_left
             ·intro w'
              go_simp
              with_reducible rfl
             rotate_left
             ·simp only [Act.put, List.setIfInBounds_toArray, List.set_cons_zero, List.set_cons_succ, i64_w, i32_w]
              rfl
             refine pure_ (i := 15) (N := some 110) (v := ?_) (a' := ?_) #[true, true, true, true, true, true, true, true, true, true, true, true, true, true, true, true, false, false, false, false, false, false, false, false, false, false, false, false, false, false, false, false, false, false, false, false, false, false, false, false, false, false, false, false, false, false, false, false, false, false, false, false, false, false, false, false, false, false, false, false, false, false, false, false] rfl rfl (any_of HT_.out (by kernel_rfl)) (fun _ _ _ h => h) (Or.inl ⟨by rfl, ?_⟩) ?_ ?_
             rotate_left
             ·intro w'
              go_simp
              with_reducible rfl
             rotate_left
             ·simp only [Act.put, List.setIfInBounds_toArray, List.set_cons_zero, List.set_cons_succ, i64_w, i32_w]
              rfl
             refine pure_ (i := 16) (N := some 111) (v := ?_) (a' := ?_) #[true, true, true, true, true, true, true, true, true, true, true, true, true, true, true, true, true, false, false, false, false, false, false, false, false, false, false, false, false, false, false, false, false, false, false, false, false, false, false, false, false, false, false, false, false, false, false, false, false, false, false, false, false, false, false, false, false, false, false, false, false, false, false, false] rfl rfl (any_of HT_.out (by kernel_rfl)) (fun _ _ _ h => h) (Or.inl ⟨by rfl, ?_⟩) ?_ ?_
             rotate_left
             ·intro w'
              go_simp
              with_reducible rfl
             rotate_left
             ·simp only [Act.put, List.setIfInBounds_toArray, List.set_cons_zero, List.set_cons_succ, i64_w, i32_w]
              rfl
             refine pure_ (i := 17) (N := some 112) (v := ?_) (a' := ?_) #[true, true, true, true, true, true, true, true, true, true, true, true, true, true, true, true, true, true, false, false, false, false, false, false, false, false, false, false, false, false, false, false, false, false, false, false, false, false, false, false, false, false, false, false, false, false, false, false, false, false, false, false, false, false, false, false, false, false, false, false, false, false, false, false] rfl rfl (any_of HT_.out (by kernel_rfl)) (fun _ _ _ h => h) (Or.inl ⟨by rfl, ?_⟩) ?_ ?_
             rotate_left
             ·intro w'
              go_simp
              with_reducible rfl
             rotate_left
             ·simp only [Act.put, List.setIfInBounds_toArray, List.set_cons_zero, List.set_cons_succ, i64_w, i32_w]
              rfl
             refine pure_ (i := 18) (N := some 113) (v := ?_) (a' := ?_) #[true, true, true, true, true, true, true, true, true, true, true, true, true, true, true, true, true, true, true, false, false, false, false, false, false, false, false, false, false, false, false, false, false, false, false, false, false, false, false, false, false, false, false, false, false, false, false, false, false, false, false, false, false, false, false, false, false, false, false, false, false, false, false, false] rfl rfl (any_of HT_.out (by kernel_rfl)) (fun _ _ _ h => h) (Or.inl ⟨by rfl, ?_⟩) ?_ ?_
             rotate_left
             ·intro w'
              go_simp
              with_reducible rfl
             rotate_left
             ·simp only [Act.put, List.setIfInBounds_toArray, List.set_cons_zero, List.set_cons_succ, i64_w, i32_w]
              rfl
             refine take_ (i := 19) (N := some 114) (v := ?_) (a' := ?_) #[true, true, true, true, true, true, true, true, true, true, true, true, true, true, true, true, true, true, true, true, false, false, false, false, false, false, false, false, false, false, false, false, false, false, false, false, false, false, false, false, false, false, false, false, false, false, false, false, false, false, false, false, false, false, false, false, false, false, false, false, false, false, false, false] rfl rfl (take_ofW HT_.out HW_.out (by kernel_rfl)) (fun _ _ _ h => h) (Or.inl ⟨by rfl, ?_⟩) hHeld ?_ ?_
             rotate_left
             ·rintro w' ⟨s0, s1, s2, s3, s4, s5, s6, s7, s8, s9, s10, s11, s12, s13, s14, s15, s16, s17, s18, s19, s20, s21, s22, s23, s24, s25⟩
              go_simp
              with_reducible rfl
             rotate_left
             ·simp only [Act.put, List.setIfInBounds_toArray, List.set_cons_zero, List.set_cons_succ, i64_w, i32_w]
              rfl
             refine take_ (i := 20) (N := some 115) (v := ?_) (a' := ?_) #[true, true, true, true, true, true, true, true, true, true, true, true, true, true, true, true, true, true, true, true, true, false, false, false, false, false, false, false, false, false, false, false, false, false, false, false, false, false, false, false, false, false, false, false, false, false, false, false, false, false, false, false, false, false, false, false, false, false, false, false, false, false, false, false] rfl rfl (take_ofW HT_.out HW_.out (by kernel_rfl)) (fun _ _ _ h => h) (Or.inl ⟨by rfl, ?_⟩) hHeld ?_ ?_
             rotate_left
             ·rintro w' ⟨s0, s1, s2, s3, s4, s5, s6, s7, s8, s9, s10, s11, s12, s13, s14, s15, s16, s17, s18, s19, s20, s21, s22, s23, s24, s25⟩
              go_simp
              with_reducible rfl
             rotate_left
             ·simp only [Act.put, List.setIfInBounds_toArray, List.set_cons_zero, List.set_cons_succ, i64_w, i32_w]
              rfl
             refine pure_ (i := 21) (N := some 116) (v := ?_) (a' := ?_) #[true, true, true, true, true, true, true, true, true, true, true, true, true, true, true, true, true, true, true, true, true, true, false, false, false, false, false, false, false, false, false, false, false, false, false, false, false, false, false, false, false, false, false, false, false, false, false, false, false, false, false, false, false, false, false, false, false, false, false, false, false, false, false, false] rfl rfl (any_of HT_.out (by kernel_rfl)) (fun _ _ _ h => h) (Or.inl ⟨by rfl, ?_⟩) ?_ ?_
             rotate_left
             ·intro w'
              go_simp
              with_reducible rfl
             rotate_left
             ·simp only [Act.put, List.setIfInBounds_toArray, List.set_cons_zero, List.set_cons_succ, i64_w, i32_w]
              rfl
             refine pure_ (i := 22) (N := some 117) (v := ?_) (a' := ?_) #[true, true, true, true, true, true, true, true, true, true, true, true, true, true, true, true, true, true, true, true, true, true, true, false, false, false, false, false, false, false, false, false, false, false, false, false, false, false, false, false, false, false, false, false, false, false, false, false, false, false, false, false, false, false, false, false, false, false, false, false, false, false, false, false] rfl rfl (any_of HT_.out (by kernel_rfl)) (fun _ _ _ h => h) (Or.inl ⟨by rfl, ?_⟩) ?_ ?_
             rotate_left
             ·intro w'
              go_simp
              with_reducible rfl
             rotate_left
             ·simp only [Act.put, List.setIfInBounds_toArray, List.set_cons_zero, List.set_cons_succ, i64_w, i32_w]
              rfl
             refine pure_ (i := 23) (N := some 118) (v := ?_) (a' := ?_) #[true, true, true, true, true, true, true, true, true, true, true, true, true, true, true, true, true, true, true, true, true, true, true, true, false, false, false, false, false, false, false, false, false, false, false, false, false, false, false, false, false, false, false, false, false, false, false, false, false, false, false, false, false, false, false, false, false, false, false, false, false, false, false, false] rfl rfl (any_of HT_.out (by kernel_rfl)) (fun _ _ _ h => h) (Or.inl ⟨by rfl, ?_⟩) ?_ ?_
             rotate_left
             ·intro w'
              go_simp
              with_reducible rfl
             rotate_left
             ·simp only [Act.put, List.setIfInBounds_toArray, List.set_cons_zero, List.set_cons_succ, i64_w, i32_w]
              rfl
             refine pure_ (i := 24) (N := some 119) (v := ?_) (a' := ?_) #[true, true, true, true, true, true, true, true, true, true, true, true, true, true, true, true, true, true, true, true, true, true, true, true, true, false, false, false, false, false, false, false, false, false, false, false, false, false, false, false, false, false, false, false, false, false, false, false, false, false, false, false, false, false, false, false, false, false, false, false, false, false, false, false] rfl rfl (any_of HT_.out (by kernel_rfl)) (fun _ _ _ h => h) (Or.inl ⟨by rfl, ?_⟩) ?_ ?_
             rotate_left
             ·intro w'
              go_simp
              with_reducible rfl
             rotate_left
             ·simp only [Act.put, List.setIfInBounds_toArray, List.set_cons_zero, List.set_cons_succ, i64_w, i32_w]
              rfl
             refine pure_ (i := 25) (N := some 120) (v := ?_) (a' := ?_) #[true, true, true, true, true, true, true, true, true, true, true, true, true, true, true, true, true, true, true, true, true, true, true, true, true, true, false, false, false, false, false, false, false, false, false, false, false, false, false, false, false, false, false, false, false, false, false, false, false, false, false, false, false, false, false, false, false, false, false, false, false, false, false, false] rfl rfl (any_of HT_.out (by kernel_rfl)) (fun _ _ _ h => h) (Or.inl ⟨by rfl, ?_⟩) ?_ ?_
             rotate_left
             ·intro w'
              go_simp
              with_reducible rfl
             rotate_left
             ·simp only [Act.put, List.setIfInBounds_toArray, List.set_cons_zero, List.set_cons_succ, i64_w, i32_w]
              rfl
             refine pure_ (i := 26) (N := some 121) (v := ?_) (a' := ?_) #[true, true, true, true, true, true, true, true, true, true, true, true, true, true, true, true, true, true, true, true, true, true, true, true, true, true, true, false, false, false, false, false, false, false, false, false, false, false, false, false, false, false, false, false, false, false, false, false, false, false, false, false, false, false, false, false, false, false, false, false, false, false, false, false] rfl rfl (any_of HT_.out (by kernel_rfl)) (fun _ _ _ h => h) (Or.inl ⟨by rfl, ?_⟩) ?_ ?_
             rotate_left
             ·intro w'
              go_simp
              with_reducible rfl
             rotate_left
             ·simp only [Act.put, List.setIfInBounds_toArray, List.set_cons_zero, List.set_cons_succ, i64_w, i32_w]
              rfl
             refine pure_ (i := 27) (N := some 122) (v := ?_) (a' := ?_) #[true, true, true, true, true, true, true, true, true, true, true, true, true, true, true, true, true, true, true, true, true, true, true, true, true, true, true, true, false, false, false, false, false, false, false, false, false, false, false, false, false, false, false, false, false, false, false, false, false, false, false, false, false, false, false, false, false, false, false, false, false, false, false, false] rfl rfl (any_of HT_.out (by kernel_rfl)) (fun _ _ _ h => h) (Or.inl ⟨by rfl, ?_⟩) ?_ ?_
             rotate_left
             ·intro w'
              go_simp
              with_reducible rfl
             rotate_left
             ·simp only [Act.put, List.setIfInBounds_toArray, List.set_cons_zero, List.set_cons_succ, i64_w, i32_w]
              rfl
             refine pure_ (i := 28) (N := some 123) (v := ?_) (a' := ?_) #[true, true, true, true, true, true, true, true, true, true, true, true, true, true, true, true, true, true, true, true, true, true, true, true, true, true, true, true, true, false, false, false, false, false, false, false, false, false, false, false, false, false, false, false, false, false, false, false, false, false, false, false, false, false, false, false, false, false, false, false, false, false, false, false] rfl rfl (any_of HT_.out (by kernel_rfl)) (fun _ _ _ h => h) (Or.inl ⟨by rfl, ?_⟩) ?_ ?_
             rotate_left
             ·intro w'
              go_simp
              with_reducible rfl
             rotate_left
             ·simp only [Act.put, List.setIfInBounds_toArray, List.set_cons_zero, List.set_cons_succ, i64_w, i32_w]
              rfl
             refine take_ (i := 29) (N := some 124) (v := ?_) (a' := ?_) #[true, true, true, true, true, true, true, true, true, true, true, true, true, true, true, true, true, true, true, true, true, true, true, true, true, true, true, true, true, true, false, false, false, false, false, false, false, false, false, false, false, false, false, false, false, false, false, false, false, false, false, false, false, false, false, false, false, false, false, false, false, false, false, false] rfl rfl (take_ofW HT_.out HW_.out (by kernel_rfl)) (fun _ _ _ h => h) (Or.inl ⟨by rfl, ?_⟩) hHeld ?_ ?_
             rotate_left
             ·rintro w' ⟨s0, s1, s2, s3, s4, s5, s6, s7, s8, s9, s10, s11, s12, s13, s14, s15, s16, s17, s18, s19, s20, s21, s22, s23, s24, s25⟩
              go_simp
              with_reducible rfl
             rotate_left
             ·simp only [Act.put, List.setIfInBounds_toArray, List.set_cons_zero, List.set_cons_succ, i64_w, i32_w]
              rfl
             refine take_ (i := 30) (N := some 125) (v := ?_) (a' := ?_) #[true, true, true, true, true, true, true, true, true, true, true, true, true, true, true, true, true, true, true, true, true, true, true, true, true, true, true, true, true, true, true, false, false, false, false, false, false, false, false, false, false, false, false, false, false, false, false, false, false, false, false, false, false, false, false, false, false, false, false, false, false, false, false, false] rfl rfl (take_ofW HT_.out HW_.out (by kernel_rfl)) (fun _ _ _ h => h) (Or.inl ⟨by rfl, ?_⟩) hHeld ?_ ?_
             rotate_left
             ·rintro w' ⟨s0, s1, s2, s3, s4, s5, s6, s7, s8, s9, s10, s11, s12, s13, s14, s15, s16, s17, s18, s19, s20, s21, s22, s23, s24, s25⟩
              go_simp
              with_reducible rfl
             rotate_left
             ·simp only [Act.put, List.setIfInBounds_toArray, List.set_cons_zero, List.set_cons_succ, i64_w, i32_w]
              rfl
             refine pure_ (i := 31) (N := some 126) (v := ?_) (a' := ?_) #[true, true, true, true, true, true, true, true, true, true, true, true, true, true, true, true, true, true, true, true, true, true, true, true, true, true, true, true, true, true, true, true, false, false, false, false, false, false, false, false, false, false, false, false, false, false, false, false, false, false, false, false, false, false, false, false, false, false, false, false, false, false, false, false] rfl rfl (any_of HT_.out (by kernel_rfl)) (fun _ _ _ h => h) (Or.inl ⟨by rfl, ?_⟩) ?_ ?_
             rotate_left
             ·intro w'
              go_simp
              with_reducible rfl
             rotate_left
             ·simp only [Act.put, List.setIfInBounds_toArray, List.set_cons_zero, List.set_cons_succ, i64_w, i32_w]
              rfl
             refine pure_ (i := 32) (N := some 127) (v := ?_) (a' := ?_) #[true, true, true, true, true, true, true, true, true, true, true, true, true, true, true, true, true, true, true, true, true, true, true, true, true, true, true, true, true, true, true, true, true, false, false, false, false, false, false, false, false, false, false, false, false, false, false, false, false, false, false, false, false, false, false, false, false, false, false, false, false, false, false, false] rfl rfl (any_of HT_.out (by kernel_rfl)) (fun _ _ _ h => h) (Or.inl ⟨by rfl, ?_⟩) ?_ ?_
             rotate_left
             ·intro w'
              go_simp
              with_reducible rfl
             rotate_left
             ·simp only [Act.put, List.setIfInBounds_toArray, List.set_cons_zero, List.set_cons_succ, i64_w, i32_w]
              rfl
             refine pure_ (i := 33) (N := some 128) (v := ?_) (a' := ?_) #[true, true, true, true, true, true, true, true, true, true, true, true, true, true, true, true, true, true, true, true, true, true, true, true, true, true, true, true, true, true, true, true, true, true, false, false, false, false, false, false, false, false, false, false, false, false, false, false, false, false, false, false, false, false, false, false, false, false, false, false, false, false, false, false] rfl rfl (any_of HT_.out (by kernel_rfl)) (fun _ _ _ h => h) (Or.inl ⟨by rfl, ?_⟩) ?_ ?_
             rotate_left
             ·intro w'
              go_simp
              with_reducible rfl
             rotate_left
             ·simp only [Act.put, List.setIfInBounds_toArray, List.set_cons_zero, List.set_cons_succ, i64_w, i32_w]
              rfl
             refine pure_ (i := 34) (N := some 129) (v := ?_) (a' := ?_) #[true, true, true, true, true, true, true, true, true, true, true, true, true, true, true, true, true, true, true, true, true, true, true, true, true, true, true, true, true, true, true, true, true, true, true, false, false, false, false, false, false, false, false, false, false, false, false, false, false, false, false, false, false, false, false, false, false, false, false, false, false, false, false, false] rfl rfl (any_of HT_.out (by kernel_rfl)) (fun _ _ _ h => h) (Or.inl ⟨by rfl, ?_⟩) ?_ ?_
             rotate_left
             ·intro w'
              go_simp
              with_reducible rfl
             rotate_left
             ·simp only [Act.put, List.setIfInBounds_toArray, List.set_cons_zero, List.set_cons_succ, i64_w, i32_w]
              rfl
             refine pure_ (i := 35) (N := some 130) (v := ?_) (a' := ?_) #[true, true, true, true, true, true, true, true, true, true, true, true, true, true, true, true, true, true, true, true, true, true, true, true, true, true, true, true, true, true, true, true, true, true, true, true, false, false, false, false, false, false, false, false, false, false, false, false, false, false, false, false, false, false, false, false, false, false, false, false, false, false, false, false] rfl rfl (any_of HT_.out (by kernel_rfl)) (fun _ _ _ h => h) (Or.inl ⟨by rfl, ?_⟩) ?_ ?_
             rotate_left
             ·intro w'
              go_simp
              with_reducible rfl
             rotate_left
             ·simp only [Act.put, List.setIfInBounds_toArray, List.set_cons_zero, List.set_cons_succ, i64_w, i32_w]
              rfl
             refine pure_ (i := 36) (N := some 131) (v := ?_) (a' := ?_) #[true, true, true, true, true, true, true, true, true, true, true, true, true, true, true, true, true, true, true, true, true, true, true, true, true, true, true, true, true, true, true, true, true, true, true, true, true, false, false, false, false, false, false, false, false, false, false, false, false, false, false, false, false, false, false, false, false, false, false, false, false, false, false, false] rfl rfl (any_of HT_.out (by kernel_rfl)) (fun _ _ _ h => h) (Or.inl ⟨by rfl, ?_⟩) ?_ ?_
             rotate_left
             ·intro w'
              go_simp
              with_reducible rfl
             rotate_left
             ·simp only [Act.put, List.setIfInBounds_toArray, List.set_cons_zero, List.set_cons_succ, i64_w, i32_w]
              rfl
             refine pure_ (i := 37) (N := some 132) (v := ?_) (a' := ?_) #[true, true, true, true, true, true, true, true, true, true, true, true, true, true, true, true, true, true, true, true, true, true, true, true, true, true, true, true, true, true, true, true, true, true, true, true, true, true, false, false, false, false, false, false, false, false, false, false, false, false, false, false, false, false, false, false, false, false, false, false, false, false, false, false] rfl rfl (any_of HT_.out (by kernel_rfl)) (fun _ _ _ h => h) (Or.inl ⟨by rfl, ?_⟩) ?_ ?_
             rotate_left
             ·intro w'
              go_simp
              with_reducible rfl
             rotate_left
             ·simp only [Act.put, List.setIfInBounds_toArray, List.set_cons_zero, List.set_cons_succ, i64_w, i32_w]
              rfl
             refine pure_ (i := 38) (N := some 133) (v := ?_) (a' := ?_) #[true, true, true, true, true, true, true, true, true, true, true, true, true, true, true, true, true, true, true, true, true, true, true, true, true, true, true, true, true, true, true, true, true, true, true, true, true, true, true, false, false, false, false, false, false, false, false, false, false, false, false, false, false, false, false, false, false, false, false, false, false, false, false, false] rfl rfl (any_of HT_.out (by kernel_rfl)) (fun _ _ _ h => h) (Or.inl ⟨by rfl, ?_⟩) ?_ ?_
             rotate_left
             ·intro w'
              go_simp
              with_reducible rfl
             rotate_left
             ·simp only [Act.put, List.setIfInBounds_toArray, List.set_cons_zero, List.set_cons_succ, i64_w, i32_w]
              rfl
             refine take_ (i := 39) (N := some 134) (v := ?_) (a' := ?_) #[true, true, true, true, true, true, true, true, true, true, true, true, true, true, true, true, true, true, true, true, true, true, true, true, true, true, true, true, true, true, true, true, true, true, true, true, true, true, true, true, false, false, false, false, false, false, false, false, false, false, false, false, false, false, false, false, false, false, false, false, false, false, false, false] rfl rfl (take_ofW HT_.out HW_.out (by kernel_rfl)) (fun _ _ _ h => h) (Or.inl ⟨by rfl, ?_⟩) hHeld ?_ ?_
             rotate_left
             ·rintro w' ⟨s0, s1, s2, s3, s4, s5, s6, s7, s8, s9, s10, s11, s12, s13, s14, s15, s16, s17, s18, s19, s20, s21, s22, s23, s24, s25⟩
              go_simp
              with_reducible rfl
             rotate_left
             ·simp only [Act.put, List.setIfInBounds_toArray, List.set_cons_zero, List.set_cons_succ, i64_w, i32_w]
              rfl
             refine take_ (i := 40) (N := some 135) (v := ?_) (a' := ?_) #[true, true, true, true, true, true, true, true, true, true, true, true, true, true, true, true, true, true, true, true, true, true, true, true, true, true, true, true, true, true, true, true, true, true, true, true, true, true, true, true, true, false, false, false, false, false, false, false, false, false, false, false, false, false, false, false, false, false, false, false, false, false, false, false] rfl rfl (take_ofW HT_.out HW_.out (by kernel_rfl)) (fun _ _ _ h => h) (Or.inl ⟨by rfl, ?_⟩) hHeld ?_ ?_
             rotate_left
             ·rintro w' ⟨s0, s1, s2, s3, s4, s5, s6, s7, s8, s9, s10, s11, s12, s13, s14, s15, s16, s17, s18, s19, s20, s21, s22, s23, s24, s25⟩
              go_simp
              with_reducible rfl
             rotate_left
             ·simp only [Act.put, List.setIfInBounds_toArray, List.set_cons_zero, List.set_cons_succ, i64_w, i32_w]
              rfl
             refine pure_ (i := 41) (N := some 136) (v := ?_) (a' := ?_) #[true, true, true, true, true, true, true, true, true, true, true, true, true, true, true, true, true, true, true, true, true, true, true, true, true, true, true, true, true, true, true, true, true, true, true, true, true, true, true, true, true, true, false, false, false, false, false, false, false, false, false, false, false, false, false, false, false, false, false, false, false, false, false, false] rfl rfl (any_of HT_.out (by kernel_rfl)) (fun _ _ _ h => h) (Or.inl ⟨by rfl, ?_⟩) ?_ ?_
             rotate_left
             ·intro w'
              go_simp
              with_reducible rfl
             rotate_left
             ·simp only [Act.put, List.setIfInBounds_toArray, List.set_cons_zero, List.set_cons_succ, i64_w, i32_w]
              rfl
             refine pure_ (i := 42) (N := some 137) (v := ?_) (a' := ?_) #[true, true, true, true, true, true, true, true, true, true, true, true, true, true, true, true, true, true, true, true, true, true, true, true, true, true, true, true, true, true, true, true, true, true, true, true, true, true, true, true, true, true, true, false, false, false, false, false, false, false, false, false, false, false, false, false, false, false, false, false, false, false, false, false] rfl rfl (any_of HT_.out (by kernel_rfl)) (fun _ _ _ h => h) (Or.inl ⟨by rfl, ?_⟩) ?_ ?_
             rotate_left
             ·intro w'
              go_simp
              with_reducible rfl
             rotate_left
             ·simp only [Act.put, List.setIfInBounds_toArray, List.set_cons_zero, List.set_cons_succ, i64_w, i32_w]
              rfl
             refine pure_ (i := 43) (N := some 138) (v := ?_) (a' := ?_) #[true, true, true, true, true, true, true, true, true, true, true, true, true, true, true, true, true, true, true, true, true, true, true, true, true, true, true, true, true, true, true, true, true, true, true, true, true, true, true, true, true, true, true, true, false, false, false, false, false, false, false, false, false, false, false, false, false, false, false, false, false, false, false, false] rfl rfl (any_of HT_.out (by kernel_rfl)) (fun _ _ _ h => h) (Or.inl ⟨by rfl, ?_⟩) ?_ ?_
             rotate_left
             ·intro w'
              go_simp
              with_reducible rfl
             rotate_left
             ·simp only [Act.put, List.setIfInBounds_toArray, List.set_cons_zero, List.set_cons_succ, i64_w, i32_w]
              rfl
             refine pure_ (i := 44) (N := some 139) (v := ?_) (a' := ?_) #[true, true, true, true, true, true, true, true, true, true, true, true, true, true, true, true, true, true, true, true, true, true, true, true, true, true, true, true, true, true, true, true, true, true, true, true, true, true, true, true, true, true, true, true, true, false, false, false, false, false, false, false, false, false, false, false, false, false, false, false, false, false, false, false] rfl rfl (any_of HT_.out (by kernel_rfl)) (fun _ _ _ h => h) (Or.inl ⟨by rfl, ?_⟩) ?_ ?_
             rotate_left
             ·intro w'
              go_simp
              with_reducible rfl
             rotate_left
             ·simp only [Act.put, List.setIfInBounds_toArray, List.set_cons_zero, List.set_cons_succ, i64_w, i32_w]
              rfl
             refine pure_ (i := 45) (N := some 140) (v := ?_) (a' := ?_) #[true, true, true, true, true, true, true, true, true, true, true, true, true, true, true, true, true, true, true, true, true, true, true, true, true, true, true, true, true, true, true, true, true, true, true, true, true, true, true, true, true, true, true, true, true, true, false, false, false, false, false, false, false, false, false, false, false, false, false, false, false, false, false, false] rfl rfl (any_of HT_.out (by kernel_rfl)) (fun _ _ _ h => h) (Or.inl ⟨by rfl, ?_⟩) ?_ ?_
             rotate_left
             ·intro w'
              go_simp
              with_reducible rfl
             rotate_left
             ·simp only [Act.put, List.setIfInBounds_toArray, List.set_cons_zero, List.set_cons_succ, i64_w, i32_w]
              rfl
             refine pure_ (i := 46) (N := some 141) (v := ?_) (a' := ?_) #[true, true, true, true, true, true, true, true, true, true, true, true, true, true, true, true, true, true, true, true, true, true, true, true, true, true, true, true, true, true, true, true, true, true, true, true, true, true, true, true, true, true, true, true, true, true, true, false, false, false, false, false, false, false, false, false, false, false, false, false, false, false, false, false] rfl rfl (any_of HT_.out (by kernel_rfl)) (fun _ _ _ h => h) (Or.inl ⟨by rfl, ?_⟩) ?_ ?_
             rotate_left
             ·intro w'
              go_simp
              with_reducible rfl
             rotate_left
             ·simp only [Act.put, List.setIfInBounds_toArray, List.set_cons_zero, List.set_cons_succ, i64_w, i32_w]
              rfl
             refine pure_ (i := 47) (N := some 142) (v := ?_) (a' := ?_) #[true, true, true, true, true, true, true, true, true, true, true, true, true, true, true, true, true, true, true, true, true, true, true, true, true, true, true, true, true, true, true, true, true, true, true, true, true, true, true, true, true, true, true, true, true, true, true, true, false, false, false, false, false, false, false, false, false, false, false, false, false, false, false, false] rfl rfl (any_of HT_.out (by kernel_rfl)) (fun _ _ _ h => h) (Or.inl ⟨by rfl, ?_⟩) ?_ ?_
             rotate_left
             ·intro w'
              go_simp
              with_reducible rfl
             rotate_left
             ·simp only [Act.put, List.setIfInBounds_toArray, List.set_cons_zero, List.set_cons_succ, i64_w, i32_w]
              rfl
             refine pure_ (i := 48) (N := some 143) (v := ?_) (a' := ?_) #[true, true, true, true, true, true, true, true, true, true, true, true, true, true, true, true, true, true, true, true, true, true, true, true, true, true, true, true, true, true, true, true, true, true, true, true, true, true, true, true, true, true, true, true, true, true, true, true, true, false, false, false, false, false, false, false, false, false, false, false, false, false, false, false] rfl rfl (any_of HT_.out (by kernel_rfl)) (fun _ _ _ h => h) (Or.inl ⟨by rfl, ?_⟩) ?_ ?_
             rotate_left
             ·intro w'
              go_simp
              with_reducible rfl
             rotate_left
             ·simp only [Act.put, List.setIfInBounds_toArray, List.set_cons_zero, List.set_cons_succ, i64_w, i32_w]
              rfl
             refine take_ (i := 49) (N := some 144) (v := ?_) (a' := ?_) #[true, true, true, true, true, true, true, true, true, true, true, true, true, true, true, true, true, true, true, true, true, true, true, true, true, true, true, true, true, true, true, true, true, true, true, true, true, true, true, true, true, true, true, true, true, true, true, true, true, true, false, false, false, false, false, false, false, false, false, false, false, false, false, false] rfl rfl (take_ofW HT_.out HW_.out (by kernel_rfl)) (fun _ _ _ h => h) (Or.inl ⟨by rfl, ?_⟩) hHeld ?_ ?_
             rotate_left
             ·rintro w' ⟨s0, s1, s2, s3, s4, s5, s6, s7, s8, s9, s10, s11, s12, s13, s14, s15, s16, s17, s18, s19, s20, s21, s22, s23, s24, s25⟩
              go_simp
              with_reducible rfl
             rotate_left
             ·simp only [Act.put, List.setIfInBounds_toArray, List.set_cons_zero, List.set_cons_succ, i64_w, i32_w]
              rfl
             refine take_ (i := 50) (N := some 145) (v := ?_) (a' := ?_) #[true, true, true, true, true, true, true, true, true, true, true, true, true, true, true, true, true, true, true, true, true, true, true, true, true, true, true, true, true, true, true, true, true, true, true, true, true, true, true, true, true, true, true, true, true, true, true, true, true, true, true, false, false, false, false, false, false, false, false, false, false, false, false, false] rfl rfl (take_ofW HT_.out HW_.out (by kernel_rfl)) (fun _ _ _ h => h) (Or.inl ⟨by rfl, ?_⟩) hHeld ?_ ?_
             rotate_left
             ·rintro w' ⟨s0, s1, s2, s3, s4, s5, s6, s7, s8, s9, s10, s11, s12, s13, s14, s15, s16, s17, s18, s19, s20, s21, s22, s23, s24, s25⟩
              go_simp
              with_reducible rfl
             rotate_left
             ·simp only [Act.put, List.setIfInBounds_toArray, List.set_cons_zero, List.set_cons_succ, i64_w, i32_w]
              rfl
             refine pure_ (i := 51) (N := some 146) (v := ?_) (a' := ?_) #[true, true, true, true, true, true, true, true, true, true, true, true, true, true, true, true, true, true, true, true, true, true, true, true, true, true, true, true, true, true, true, true, true, true, true, true, true, true, true, true, true, true, true, true, true, true, true, true, true, true, true, true, false, false, false, false, false, false, false, false, false, false, false, false] rfl rfl (any_of HT_.out (by kernel_rfl)) (fun _ _ _ h => h) (Or.inl ⟨by rfl, ?_⟩) ?_ ?_
             rotate_left
             ·intro w'
              go_simp
              with_reducible rfl
             rotate_left
             ·simp only [Act.put, List.setIfInBounds_toArray, List.set_cons_zero, List.set_cons_succ, i64_w, i32_w]
              rfl
             refine pure_ (i := 52) (N := some 147) (v := ?_) (a' := ?_) #[true, true, true, true, true, true, true, true, true, true, true, true, true, true, true, true, true, true, true, true, true, true, true, true, true, true, true, true, true, true, true, true, true, true, true, true, true, true, true, true, true, true, true, true, true, true, true, true, true, true, true, true, true, false, false, false, false, false, false, false, false, false, false, false] rfl rfl (any_of HT_.out (by kernel_rfl)) (fun _ _ _ h => h) (Or.inl ⟨by rfl, ?_⟩) ?_ ?_
             rotate_left
             ·intro w'
              go_simp
              with_reducible rfl
             rotate_left
             ·simp only [Act.put, List.setIfInBounds_toArray, List.set_cons_zero, List.set_cons_succ, i64_w, i32_w]
              rfl
             refine pure_ (i := 53) (N := some 148) (v := ?_) (a' := ?_) #[true, true, true, true, true, true, true, true, true, true, true, true, true, true, true, true, true, true, true, true, true, true, true, true, true, true, true, true, true, true, true, true, true, true, true, true, true, true, true, true, true, true, true, true, true, true, true, true, true, true, true, true, true, true, false, false, false, false, false, false, false, false, false, false] rfl rfl (any_of HT_.out (by kernel_rfl)) (fun _ _ _ h => h) (Or.inl ⟨by rfl, ?_⟩) ?_ ?_
             rotate_left
             ·intro w'
              go_simp
              with_reducible rfl
             rotate_left
             ·simp only [Act.put, List.setIfInBounds_toArray, List.set_cons_zero, List.set_cons_succ, i64_w, i32_w]
              rfl
             refine take_ (i := 54) (N := some 149) (v := ?_) (a' := ?_) #[true, true, true, true, true, true, true, true, true, true, true, true, true, true, true, true, true, true, true, true, true, true, true, true, true, true, true, true, true, true, true, true, true, true, true, true, true, true, true, true, true, true, true, true, true, true, true, true, true, true, true, true, true, true, true, false, false, false, false, false, false, false, false, false] rfl rfl (take_ofW HT_.out HW_.out (by kernel_rfl)) (fun _ _ _ h => h) (Or.inl ⟨by rfl, ?_⟩) hHeld ?_ ?_
             rotate_left
             ·rintro w' ⟨s0, s1, s2, s3, s4, s5, s6, s7, s8, s9, s10, s11, s12, s13, s14, s15, s16, s17, s18, s19, s20, s21, s22, s23, s24, s25⟩
              go_simp
              with_reducible rfl
             rotate_left
             ·simp only [Act.put, List.setIfInBounds_toArray, List.set_cons_zero, List.set_cons_succ, i64_w, i32_w]
              rfl
             refine take_ (i := 55) (N := some 150) (v := ?_) (a' := ?_) #[true, true, true, true, true, true, true, true, true, true, true, true, true, true, true, true, true, true, true, true, true, true, true, true, true, true, true, true, true, true, true, true, true, true, true, true, true, true, true, true, true, true, true, true, true, true, true, true, true, true, true, true, true, true, true, true, false, false, false, false, false, false, false, false] rfl rfl (take_ofW HT_.out HW_.out (by kernel_rfl)) (fun _ _ _ h => h) (Or.inl ⟨by rfl, ?_⟩) hHeld ?_ ?_
             rotate_left
             ·rintro w' ⟨s0, s1, s2, s3, s4, s5, s6, s7, s8, s9, s10, s11, s12, s13, s14, s15, s16, s17, s18, s19, s20, s21, s22, s23, s24, s25⟩
              go_simp
              with_reducible rfl
             rotate_left
             ·simp only [Act.put, List.setIfInBounds_toArray, List.set_cons_zero, List.set_cons_succ, i64_w, i32_w]
              rfl
             refine pure_ (i := 56) (N := some 151) (v := ?_) (a' := ?_) #[true, true, true, true, true, true, true, true, true, true, true, true, true, true, true, true, true, true, true, true, true, true, true, true, true, true, true, true, true, true, true, true, true, true, true, true, true, true, true, true, true, true, true, true, true, true, true, true, true, true, true, true, true, true, true, true, true, false, false, false, false, false, false, false] rfl rfl (any_of HT_.out (by kernel_rfl)) (fun _ _ _ h => h) (Or.inl ⟨by rfl, ?_⟩) ?_ ?_
             rotate_left
             ·intro w'
              go_simp
              with_reducible rfl
             rotate_left
             ·simp only [Act.put, List.setIfInBounds_toArray, List.set_cons_zero, List.set_cons_succ, i64_w, i32_w]
              rfl
             refine pure_ (i := 57) (N := some 152) (v := ?_) (a' := ?_) #[true, true, true, true, true, true, true, true, true, true, true, true, true, true, true, true, true, true, true, true, true, true, true, true, true, true, true, true, true, true, true, true, true, true, true, true, true, true, true, true, true, true, true, true, true, true, true, true, true, true, true, true, true, true, true, true, true, true, false, false, false, false, false, false] rfl rfl (any_of HT_.out (by kernel_rfl)) (fun _ _ _ h => h) (Or.inl ⟨by rfl, ?_⟩) ?_ ?_
             rotate_left
             ·intro w'
              go_simp
              with_reducible rfl
             rotate_left
             ·simp only [Act.put, List.setIfInBounds_toArray, List.set_cons_zero, List.set_cons_succ, i64_w, i32_w]
              rfl
             refine pure_ (i := 58) (N := some 153) (v := ?_) (a' := ?_) #[true, true, true, true, true, true, true, true, true, true, true, true, true, true, true, true, true, true, true, true, true, true, true, true, true, true, true, true, true, true, true, true, true, true, true, true, true, true, true, true, true, true, true, true, true, true, true, true, true, true, true, true, true, true, true, true, true, true, true, false, false, false, false, false] rfl rfl (any_of HT_.out (by kernel_rfl)) (fun _ _ _ h => h) (Or.inl ⟨by rfl, ?_⟩) ?_ ?_
             rotate_left
             ·intro w'
              go_simp
              with_reducible rfl
             rotate_left
             ·simp only [Act.put, List.setIfInBounds_toArray, List.set_cons_zero, List.set_cons_succ, i64_w, i32_w]
              rfl
             refine pure_ (i := 59) (N := some 154) (v := ?_) (a' := ?_) #[true, true, true, true, true, true, true, true, true, true, true, true, true, true, true, true, true, true, true, true, true, true, true, true, true, true, true, true, true, true, true, true, true, true, true, true, true, true, true, true, true, true, true, true, true, true, true, true, true, true, true, true, true, true, true, true, true, true, true, true, false, false, false, false] rfl rfl (any_of HT_.out (by kernel_rfl)) (fun _ _ _ h => h) (Or.inl ⟨by rfl, ?_⟩) ?_ ?_
             rotate_left
             ·intro w'
              go_simp
              with_reducible rfl
             rotate_left
             ·simp only [Act.put, List.setIfInBounds_toArray, List.set_cons_zero, List.set_cons_succ, i64_w, i32_w]
              rfl
             refine pure_ (i := 60) (N := some 155) (v := ?_) (a' := ?_) #[true, true, true, true, true, true, true, true, true, true, true, true, true, true, true, true, true, true, true, true, true, true, true, true, true, true, true, true, true, true, true, true, true, true, true, true, true, true, true, true, true, true, true, true, true, true, true, true, true, true, true, true, true, true, true, true, true, true, true, true, true, false, false, false] rfl rfl (any_of HT_.out (by kernel_rfl)) (fun _ _ _ h => h) (Or.inl ⟨by rfl, ?_⟩) ?_ ?_
             rotate_left
             ·intro w'
              go_simp
              with_reducible rfl
             rotate_left
             ·simp only [Act.put, List.setIfInBounds_toArray, List.set_cons_zero, List.set_cons_succ, i64_w, i32_w]
              rfl
             refine pure_ (i := 61) (N := some 156) (v := ?_) (a' := ?_) #[true, true, true, true, true, true, true, true, true, true, true, true, true, true, true, true, true, true, true, true, true, true, true, true, true, true, true, true, true, true, true, true, true, true, true, true, true, true, true, true, true, true, true, true, true, true, true, true, true, true, true, true, true, true, true, true, true, true, true, true, true, true, false, false] rfl rfl (any_of HT_.out (by kernel_rfl)) (fun _ _ _ h => h) (Or.inl ⟨by rfl, ?_⟩) ?_ ?_
             rotate_left
             ·intro w'
              go_simp
              with_reducible rfl
             rotate_left
             ·simp only [Act.put, List.setIfInBounds_toArray, List.set_cons_zero, List.set_cons_succ, i64_w, i32_w]
              rfl
             refine pure_ (i := 62) (N := some 157) (v := ?_) (a' := ?_) #[true, true, true, true, true, true, true, true, true, true, true, true, true, true, true, true, true, true, true, true, true, true, true, true, true, true, true, true, true, true, true, true, true, true, true, true, true, true, true, true, true, true, true, true, true, true, true, true, true, true, true, true, true, true, true, true, true, true, true, true, true, true, true, false] rfl rfl (any_of HT_.out (by kernel_rfl)) (fun _ _ _ h => h) (Or.inl ⟨by rfl, ?_⟩) ?_ ?_
             rotate_left
             ·intro w'
              go_simp
              with_reducible rfl
             rotate_left
             ·simp only [Act.put, List.setIfInBounds_toArray, List.set_cons_zero, List.set_cons_succ, i64_w, i32_w]
              rfl
             refine pure_ (i := 63) (N := some 6) (v := ?_) (a' := ?_) #[true, true, true, true, true, true, true, true, true, true, true, true, true, true, true, true, true, true, true, true, true, true, true, true, true, true, true, true, true, true, true, true, true, true, true, true, true, true, true, true, true, true, true, true, true, true, true, true, true, true, true, true, true, true, true, true, true, true, true, true, true, true, true, true] rfl rfl (any_of HT_.out (by kernel_rfl)) (fun _ _ _ h => h) (Or.inl ⟨by rfl, ?_⟩) ?_ ?_
             rotate_left
             ·intro w'
              go_simp
              with_reducible rfl
             rotate_left
             ·simp only [Act.put, List.setIfInBounds_toArray, List.set_cons_zero, List.set_cons_succ, i64_w, i32_w]
              rfl
             refine done_ (done_of HT_.out (by kernel_rfl)) ?_
             try go_wp2
             go_ret
             exact ⟨by first | rfl | (simp [errW_none, errW_some] <;> rfl) | (simp [*, errW_none, errW_some] <;> rfl), by repeat (first | (with_reducible first | exact HB.out | apply below_alloc | apply pw_below_drewN | apply below_drew1 | refine below_set ?_ GE214.out | refine below_set ?_ GE215.out | refine below_set ?_ GE220.out | refine below_set ?_ GE224.out | refine below_set ?_ GE228.out | refine below_set ?_ GE232.out | refine below_set ?_ GE236.out | refine below_set ?_ GE240.out | refine below_set ?_ GE244.out | refine below_set ?_ GE248.out | refine below_set ?_ GE254.out | refine below_set ?_ GE255.out | refine below_set ?_ GE261.out | refine below_set ?_ GE262.out) | exact HB.out)⟩
            ·rw [if_neg c28] at H
             have c28b0 : (t251 == t258 && (t252 == t259)) = false := by simpa using c28
             (try (have c28b1 : decide (t251 = t258 && (t252 == t259)) = false := by simpa using c28))
             (try (have c28b2 : (t251 == t258 && (t252 == t259)) = false := by simpa using c28))
             (try (have c28b3 : ¬ (t251 = t258 && (t252 == t259)) := by simpa using c28))
             clear c28
             obtain rfl := Option.some.inj H
             exact absurd HTR_.out (by decide)
           ·rw [if_neg c27] at H
            have c27b0 : (t249 == t256 && (t250 == t257)) = false := by simpa using c27
            (try (have c27b1 : decide (t249 = t256 && (t250 == t257)) = false := by simpa using c27))
            (try (have c27b2 : (t249 == t256 && (t250 == t257)) = false := by simpa using c27))
            (try (have c27b3 : ¬ (t249 = t256 && (t250 == t257)) := by simpa using c27))
            clear c27
            obtain rfl := Option.some.inj H
            exact absurd HTR_.out (by decide)
          ·rw [if_neg c26] at H
           have c26b0 : (t243 == t247) = false := beq_eq_false_iff_ne.mpr c26
           have c26b1 : (t243 != t247) = true := bne_iff_ne.mpr c26
           obtain rfl := Option.some.inj H
           exact absurd HTR_.out (by decide)
         ·rw [if_neg c25] at H
          have c25b0 : (t241 == t245 && (t242 == t246)) = false := by simpa using c25
          (try (have c25b1 : decide (t241 = t245 && (t242 == t246)) = false := by simpa using c25))
          (try (have c25b2 : (t241 == t245 && (t242 == t246)) = false := by simpa using c25))
          (try (have c25b3 : ¬ (t241 = t245 && (t242 == t246)) := by simpa using c25))
          clear c25
          obtain rfl := Option.some.inj H
          exact absurd HTR_.out (by decide)
        ·rw [if_neg c24] at H
         have c24b0 : (t235 == t239) = false := beq_eq_false_iff_ne.mpr c24
         have c24b1 : (t235 != t239) = true := bne_iff_ne.mpr c24
         obtain rfl := Option.some.inj H
         exact absurd HTR_.out (by decide)
       ·rw [if_neg c23] at H
        have c23b0 : (t233 == t237 && (t234 == t238)) = false := by simpa using c23
        (try (have c23b1 : decide (t233 = t237 && (t234 == t238)) = false := by simpa using c23))
        (try (have c23b2 : (t233 == t237 && (t234 == t238)) = false := by simpa using c23))
        (try (have c23b3 : ¬ (t233 = t237 && (t234 == t238)) := by simpa using c23))
        clear c23
        obtain rfl := Option.some.inj H
        exact absurd HTR_.out (by decide)
      ·rw [if_neg c22] at H
       have c22b0 : (t227 == t231) = false := beq_eq_false_iff_ne.mpr c22
       have c22b1 : (t227 != t231) = true := bne_iff_ne.mpr c22
       obtain rfl := Option.some.inj H
       exact absurd HTR_.out (by decide)
     ·rw [if_neg c21] at H
      have c21b0 : (t225 == t229 && (t226 == t230)) = false := by simpa using c21
      (try (have c21b1 : decide (t225 = t229 && (t226 == t230)) = false := by simpa using c21))
      (try (have c21b2 : (t225 == t229 && (t226 == t230)) = false := by simpa using c21))
      (try (have c21b3 : ¬ (t225 = t229 && (t226 == t230)) := by simpa using c21))
      clear c21
      obtain rfl := Option.some.inj H
      exact absurd HTR_.out (by decide)
    ·rw [if_neg c20] at H
     have c20b0 : (t219 == t223) = false := beq_eq_false_iff_ne.mpr c20
     have c20b1 : (t219 != t223) = true := bne_iff_ne.mpr c20
     obtain rfl := Option.some.inj H
     exact absurd HTR_.out (by decide)
   ·rw [if_neg c19] at H
    have c19b0 : (t217 == t221 && (t218 == t222)) = false := by simpa using c19
    (try (have c19b1 : decide (t217 = t221 && (t218 == t222)) = false := by simpa using c19))
    (try (have c19b2 : (t217 == t221 && (t218 == t222)) = false := by simpa using c19))
    (try (have c19b3 : ¬ (t217 = t221 && (t218 == t222)) := by simpa using c19))
    clear c19
    obtain rfl := Option.some.inj H
    exact absurd HTR_.out (by decide)
  ·rw [if_neg c18] at H
   have c18b0 : (t263 == t264) = false := by simpa using c18
   (try (have c18b1 : decide (t263 = t264) = false := by simpa using c18))
   (try (have c18b2 : (t263 == t264) = false := by simpa using c18))
   (try (have c18b3 : ¬ (t263 = t264) := by simpa using c18))
   clear c18
   obtain rfl := Option.some.inj H
   exact absurd HTR_.out (by decide)
 ·replace c15 := Bool.eq_false_iff.mpr c15
  subst c15
  have H1 : (some false) = some r := by rw [if_neg (show ¬ (false = true) by decide)] at H; exact H
  clear H
  have H := H1
  clear H1
  obtain rfl := Option.some.inj H
  exact absurd HTR_.out (by decide)

end Go.Proofs.YtgnjodocggihoaaDoor.K
