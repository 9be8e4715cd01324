-- Printed by a program of this session (a turned copy of the print); what it takes as given stands in the seat's own texts.
import Derived.Test.YtfncbcbhhddnpaaKx0
import Derived.Test.YtfncbcbhhddnpaaKx8
import Derived.Test.YtfncbcbhhddnpaaKx11
namespace Go.Proofs.Ytfncbcbhhddnpaa.K
open Go.RowKit Go.Proofs.YtfncbcbhhddnpaaW.PrintWords Go.Proofs.YtfncbcbhhddnpaaW.PrintLast Go.Proofs.YtfncbcbhhddnpaaW.PrintMore
attribute [local go_sem] max2_int min2_int max_two min_two max_three min_three max_four min_four   -- for this text's walks alone
set_option linter.unusedVariables false
set_option linter.unusedSimpArgs false

/-! ### bazaarref10_Parse: function 12 -/
mutual
def bazaarref10_Parse.j0 : Nat → ByteArray → Int → Bool → Int → Int → Int → Int → Option (Int × Int × Int × Int × Int)
  | 0, _, _, _, _, _, _, _ => none
  | k + 1, x0, x5, x12, x158000, x158001, x158002, x158003 => if x12 = true then (if 1 ≤ 5 then (if 5 ≤ (x0.size : Int) then ((bazaarref03_Get.f k (x0.extract 1 5)).bind fun t158 => ((bazaarref10_Right.f k 1 ((t158) % 4294967296) 0 0).bind fun t159 => (if t159 = true then (some (1, (t158) % 4294967296, 0, 0, 0)) else (some (0, 0, 0, 0, 100))))) else (none)) else (none)) else (if 0 < (x0.size : Int) then (if (bt x0 0) = 105 then (bazaarref10_Parse.j1 k x0 x5 (x5 == 7) x158000 x158001 x158002 x158003) else (bazaarref10_Parse.j1 k x0 x5 false x158000 x158001 x158002 x158003)) else (none))
def bazaarref10_Parse.j1 : Nat → ByteArray → Int → Bool → Int → Int → Int → Int → Option (Int × Int × Int × Int × Int)
  | 0, _, _, _, _, _, _, _ => none
  | k + 1, x0, x5, x25, x158000, x158001, x158002, x158003 => if x25 = true then (if 1 ≤ 5 then (if 5 ≤ (x0.size : Int) then ((bazaarref03_Get.f k (x0.extract 1 5)).bind fun t160 => (if 5 ≤ 7 then (if 7 ≤ (x0.size : Int) then ((bazaarref03_Get.f k (x0.extract 5 7)).bind fun t161 => ((bazaarref10_Right.f k 2 ((t160) % 4294967296) (IntKind.u16.wrap (t161)) 0).bind fun t162 => (if t162 = true then (some (2, (t160) % 4294967296, IntKind.u16.wrap (t161), 0, 0)) else (some (0, 0, 0, 0, 100))))) else (none)) else (none))) else (none)) else (none)) else (if 0 < (x0.size : Int) then (if (bt x0 0) = 109 then (bazaarref10_Parse.j2 k x0 x5 (x5 == 9) x158000 x158001 x158002 x158003) else (bazaarref10_Parse.j2 k x0 x5 false x158000 x158001 x158002 x158003)) else (none))
def bazaarref10_Parse.j2 : Nat → ByteArray → Int → Bool → Int → Int → Int → Int → Option (Int × Int × Int × Int × Int)
  | 0, _, _, _, _, _, _, _ => none
  | k + 1, x0, x5, x42, x158000, x158001, x158002, x158003 => if x42 = true then (if 1 ≤ 5 then (if 5 ≤ (x0.size : Int) then ((bazaarref03_Get.f k (x0.extract 1 5)).bind fun t163 => (if 5 ≤ 9 then (if 9 ≤ (x0.size : Int) then ((bazaarref03_Get.f k (x0.extract 5 9)).bind fun t164 => ((bazaarref10_Right.f k 3 ((t163) % 4294967296) 0 ((t164) % 4294967296)).bind fun t165 => (if t165 = true then (some (3, (t163) % 4294967296, 0, (t164) % 4294967296, 0)) else (some (0, 0, 0, 0, 100))))) else (none)) else (none))) else (none)) else (none)) else (if 0 < (x0.size : Int) then (if (bt x0 0) = 115 then (bazaarref10_Parse.j3 k x0 x5 (x5 == 5) x158000 x158001 x158002 x158003) else (bazaarref10_Parse.j3 k x0 x5 false x158000 x158001 x158002 x158003)) else (none))
def bazaarref10_Parse.j3 : Nat → ByteArray → Int → Bool → Int → Int → Int → Int → Option (Int × Int × Int × Int × Int)
  | 0, _, _, _, _, _, _, _ => none
  | k + 1, x0, x5, x59, x158000, x158001, x158002, x158003 => if x59 = true then (if 1 ≤ 5 then (if 5 ≤ (x0.size : Int) then ((bazaarref03_Get.f k (x0.extract 1 5)).bind fun t166 => ((bazaarref10_Right.f k 4 ((t166) % 4294967296) 0 0).bind fun t167 => (if t167 = true then (some (4, (t166) % 4294967296, 0, 0, 0)) else (some (0, 0, 0, 0, 100))))) else (none)) else (none)) else (if 0 < (x0.size : Int) then (if (bt x0 0) = 110 then (bazaarref10_Parse.j4 k x0 x5 (x5 == 2) x158000 x158001 x158002 x158003) else (bazaarref10_Parse.j4 k x0 x5 false x158000 x158001 x158002 x158003)) else (none))
def bazaarref10_Parse.j4 : Nat → ByteArray → Int → Bool → Int → Int → Int → Int → Option (Int × Int × Int × Int × Int)
  | 0, _, _, _, _, _, _, _ => none
  | k + 1, x0, x5, x72, x158000, x158001, x158002, x158003 => if x72 = true then (if 1 < (x0.size : Int) then ((bazaarref10_Right.f k 5 ((bt x0 1) % 4294967296) 0 0).bind fun t168 => (if t168 = true then (some (5, (bt x0 1) % 4294967296, 0, 0, 0)) else (some (0, 0, 0, 0, 100)))) else (none)) else (if 0 < (x0.size : Int) then (if (bt x0 0) = 116 then (bazaarref10_Parse.j5 k x0 (x5 == 4) x158000 x158001 x158002 x158003) else (bazaarref10_Parse.j5 k x0 false x158000 x158001 x158002 x158003)) else (none))
def bazaarref10_Parse.j5 : Nat → ByteArray → Bool → Int → Int → Int → Int → Option (Int × Int × Int × Int × Int)
  | 0, _, _, _, _, _, _ => none
  | k + 1, x0, x84, x158000, x158001, x158002, x158003 => if x84 = true then (if 1 < (x0.size : Int) then (if 2 ≤ 4 then (if 4 ≤ (x0.size : Int) then ((bazaarref03_Get.f k (x0.extract 2 4)).bind fun t169 => ((bazaarref10_Right.f k 6 ((bt x0 1) % 4294967296) (IntKind.u16.wrap (t169)) 0).bind fun t170 => (if t170 = true then (some (6, (bt x0 1) % 4294967296, IntKind.u16.wrap (t169), 0, 0)) else (some (0, 0, 0, 0, 100))))) else (none)) else (none)) else (none)) else ((bazaarref10_Right.f k x158000 x158001 x158002 x158003).bind fun t171 => (if t171 = true then (some (x158000, x158001, x158002, x158003, 0)) else (some (0, 0, 0, 0, 100))))
end
def bazaarref10_Parse.f (k : Nat) (a0 : ByteArray) : Option (Int × Int × Int × Int × Int) := if a0.toList = ([] : List UInt8) then (some (0, 0, 0, 0, 100)) else (if 0 < (a0.size : Int) then (if (bt a0 0) = 97 then (bazaarref10_Parse.j0 k a0 (a0.size : Int) ((a0.size : Int) == 5) 0 0 0 0) else (bazaarref10_Parse.j0 k a0 (a0.size : Int) false 0 0 0 0)) else (none))
theorem bazaarref10_Parse.mono_l : ∀ k, (∀ y0 y1 y2 y3 y4 y5 y6, LeO (bazaarref10_Parse.j0 k y0 y1 y2 y3 y4 y5 y6) (bazaarref10_Parse.j0 (k + 1) y0 y1 y2 y3 y4 y5 y6)) ∧ (∀ y0 y1 y2 y3 y4 y5 y6, LeO (bazaarref10_Parse.j1 k y0 y1 y2 y3 y4 y5 y6) (bazaarref10_Parse.j1 (k + 1) y0 y1 y2 y3 y4 y5 y6)) ∧ (∀ y0 y1 y2 y3 y4 y5 y6, LeO (bazaarref10_Parse.j2 k y0 y1 y2 y3 y4 y5 y6) (bazaarref10_Parse.j2 (k + 1) y0 y1 y2 y3 y4 y5 y6)) ∧ (∀ y0 y1 y2 y3 y4 y5 y6, LeO (bazaarref10_Parse.j3 k y0 y1 y2 y3 y4 y5 y6) (bazaarref10_Parse.j3 (k + 1) y0 y1 y2 y3 y4 y5 y6)) ∧ (∀ y0 y1 y2 y3 y4 y5 y6, LeO (bazaarref10_Parse.j4 k y0 y1 y2 y3 y4 y5 y6) (bazaarref10_Parse.j4 (k + 1) y0 y1 y2 y3 y4 y5 y6)) ∧ (∀ y0 y1 y2 y3 y4 y5, LeO (bazaarref10_Parse.j5 k y0 y1 y2 y3 y4 y5) (bazaarref10_Parse.j5 (k + 1) y0 y1 y2 y3 y4 y5))
  | 0 => ⟨fun _ _ _ _ _ _ _ r h => by simp [bazaarref10_Parse.j0] at h, fun _ _ _ _ _ _ _ r h => by simp [bazaarref10_Parse.j1] at h, fun _ _ _ _ _ _ _ r h => by simp [bazaarref10_Parse.j2] at h, fun _ _ _ _ _ _ _ r h => by simp [bazaarref10_Parse.j3] at h, fun _ _ _ _ _ _ _ r h => by simp [bazaarref10_Parse.j4] at h, fun _ _ _ _ _ _ r h => by simp [bazaarref10_Parse.j5] at h⟩
  | k + 1 => by
    obtain ⟨ih0, ih1, ih2, ih3, ih4, ih5⟩ := bazaarref10_Parse.mono_l k
    refine ⟨?_, ?_, ?_, ?_, ?_, ?_⟩
    · intro y0 y1 y2 y3 y4 y5 y6
      unfold bazaarref10_Parse.j0
      repeat' first
      | (with_reducible exact ih0 _ _ _ _ _ _ _)
      | (with_reducible exact ih1 _ _ _ _ _ _ _)
      | (with_reducible exact ih2 _ _ _ _ _ _ _)
      | (with_reducible exact ih3 _ _ _ _ _ _ _)
      | (with_reducible exact ih4 _ _ _ _ _ _ _)
      | (with_reducible exact ih5 _ _ _ _ _ _)
      | (with_reducible exact bazaarref03_Get.mono _ _)
      | (with_reducible exact bazaarref10_Right.mono _ _ _ _ _)
      | (with_reducible exact LeO.refl _)
      | (with_reducible exact LeO.none _)
      | (with_reducible refine LeO.ite ?_ ?_)
      | (with_reducible refine LeO.bind ?_ (fun _ => ?_))
      | exact ih0 _ _ _ _ _ _ _
      | exact ih1 _ _ _ _ _ _ _
      | exact ih2 _ _ _ _ _ _ _
      | exact ih3 _ _ _ _ _ _ _
      | exact ih4 _ _ _ _ _ _ _
      | exact ih5 _ _ _ _ _ _
      | exact bazaarref03_Get.mono _ _
      | exact bazaarref10_Right.mono _ _ _ _ _
      | exact LeO.none _
      | refine LeO.ite ?_ ?_
      | refine LeO.bind ?_ (fun _ => ?_)
    · intro y0 y1 y2 y3 y4 y5 y6
      unfold bazaarref10_Parse.j1
      repeat' first
      | (with_reducible exact ih0 _ _ _ _ _ _ _)
      | (with_reducible exact ih1 _ _ _ _ _ _ _)
      | (with_reducible exact ih2 _ _ _ _ _ _ _)
      | (with_reducible exact ih3 _ _ _ _ _ _ _)
      | (with_reducible exact ih4 _ _ _ _ _ _ _)
      | (with_reducible exact ih5 _ _ _ _ _ _)
      | (with_reducible exact bazaarref03_Get.mono _ _)
      | (with_reducible exact bazaarref10_Right.mono _ _ _ _ _)
      | (with_reducible exact LeO.refl _)
      | (with_reducible exact LeO.none _)
      | (with_reducible refine LeO.ite ?_ ?_)
      | (with_reducible refine LeO.bind ?_ (fun _ => ?_))
      | exact ih0 _ _ _ _ _ _ _
      | exact ih1 _ _ _ _ _ _ _
      | exact ih2 _ _ _ _ _ _ _
      | exact ih3 _ _ _ _ _ _ _
      | exact ih4 _ _ _ _ _ _ _
      | exact ih5 _ _ _ _ _ _
      | exact bazaarref03_Get.mono _ _
      | exact bazaarref10_Right.mono _ _ _ _ _
      | exact LeO.none _
      | refine LeO.ite ?_ ?_
      | refine LeO.bind ?_ (fun _ => ?_)
    · intro y0 y1 y2 y3 y4 y5 y6
      unfold bazaarref10_Parse.j2
      repeat' first
      | (with_reducible exact ih0 _ _ _ _ _ _ _)
      | (with_reducible exact ih1 _ _ _ _ _ _ _)
      | (with_reducible exact ih2 _ _ _ _ _ _ _)
      | (with_reducible exact ih3 _ _ _ _ _ _ _)
      | (with_reducible exact ih4 _ _ _ _ _ _ _)
      | (with_reducible exact ih5 _ _ _ _ _ _)
      | (with_reducible exact bazaarref03_Get.mono _ _)
      | (with_reducible exact bazaarref10_Right.mono _ _ _ _ _)
      | (with_reducible exact LeO.refl _)
      | (with_reducible exact LeO.none _)
      | (with_reducible refine LeO.ite ?_ ?_)
      | (with_reducible refine LeO.bind ?_ (fun _ => ?_))
      | exact ih0 _ _ _ _ _ _ _
      | exact ih1 _ _ _ _ _ _ _
      | exact ih2 _ _ _ _ _ _ _
      | exact ih3 _ _ _ _ _ _ _
      | exact ih4 _ _ _ _ _ _ _
      | exact ih5 _ _ _ _ _ _
      | exact bazaarref03_Get.mono _ _
      | exact bazaarref10_Right.mono _ _ _ _ _
      | exact LeO.none _
      | refine LeO.ite ?_ ?_
      | refine LeO.bind ?_ (fun _ => ?_)
    · intro y0 y1 y2 y3 y4 y5 y6
      unfold bazaarref10_Parse.j3
      repeat' first
      | (with_reducible exact ih0 _ _ _ _ _ _ _)
      | (with_reducible exact ih1 _ _ _ _ _ _ _)
      | (with_reducible exact ih2 _ _ _ _ _ _ _)
      | (with_reducible exact ih3 _ _ _ _ _ _ _)
      | (with_reducible exact ih4 _ _ _ _ _ _ _)
      | (with_reducible exact ih5 _ _ _ _ _ _)
      | (with_reducible exact bazaarref03_Get.mono _ _)
      | (with_reducible exact bazaarref10_Right.mono _ _ _ _ _)
      | (with_reducible exact LeO.refl _)
      | (with_reducible exact LeO.none _)
      | (with_reducible refine LeO.ite ?_ ?_)
      | (with_reducible refine LeO.bind ?_ (fun _ => ?_))
      | exact ih0 _ _ _ _ _ _ _
      | exact ih1 _ _ _ _ _ _ _
      | exact ih2 _ _ _ _ _ _ _
      | exact ih3 _ _ _ _ _ _ _
      | exact ih4 _ _ _ _ _ _ _
      | exact ih5 _ _ _ _ _ _
      | exact bazaarref03_Get.mono _ _
      | exact bazaarref10_Right.mono _ _ _ _ _
      | exact LeO.none _
      | refine LeO.ite ?_ ?_
      | refine LeO.bind ?_ (fun _ => ?_)
    · intro y0 y1 y2 y3 y4 y5 y6
      unfold bazaarref10_Parse.j4
      repeat' first
      | (with_reducible exact ih0 _ _ _ _ _ _ _)
      | (with_reducible exact ih1 _ _ _ _ _ _ _)
      | (with_reducible exact ih2 _ _ _ _ _ _ _)
      | (with_reducible exact ih3 _ _ _ _ _ _ _)
      | (with_reducible exact ih4 _ _ _ _ _ _ _)
      | (with_reducible exact ih5 _ _ _ _ _ _)
      | (with_reducible exact bazaarref03_Get.mono _ _)
      | (with_reducible exact bazaarref10_Right.mono _ _ _ _ _)
      | (with_reducible exact LeO.refl _)
      | (with_reducible exact LeO.none _)
      | (with_reducible refine LeO.ite ?_ ?_)
      | (with_reducible refine LeO.bind ?_ (fun _ => ?_))
      | exact ih0 _ _ _ _ _ _ _
      | exact ih1 _ _ _ _ _ _ _
      | exact ih2 _ _ _ _ _ _ _
      | exact ih3 _ _ _ _ _ _ _
      | exact ih4 _ _ _ _ _ _ _
      | exact ih5 _ _ _ _ _ _
      | exact bazaarref03_Get.mono _ _
      | exact bazaarref10_Right.mono _ _ _ _ _
      | exact LeO.none _
      | refine LeO.ite ?_ ?_
      | refine LeO.bind ?_ (fun _ => ?_)
    · intro y0 y1 y2 y3 y4 y5
      unfold bazaarref10_Parse.j5
      repeat' first
      | (with_reducible exact ih0 _ _ _ _ _ _ _)
      | (with_reducible exact ih1 _ _ _ _ _ _ _)
      | (with_reducible exact ih2 _ _ _ _ _ _ _)
      | (with_reducible exact ih3 _ _ _ _ _ _ _)
      | (with_reducible exact ih4 _ _ _ _ _ _ _)
      | (with_reducible exact ih5 _ _ _ _ _ _)
      | (with_reducible exact bazaarref03_Get.mono _ _)
      | (with_reducible exact bazaarref10_Right.mono _ _ _ _ _)
      | (with_reducible exact LeO.refl _)
      | (with_reducible exact LeO.none _)
      | (with_reducible refine LeO.ite ?_ ?_)
      | (with_reducible refine LeO.bind ?_ (fun _ => ?_))
      | exact ih0 _ _ _ _ _ _ _
      | exact ih1 _ _ _ _ _ _ _
      | exact ih2 _ _ _ _ _ _ _
      | exact ih3 _ _ _ _ _ _ _
      | exact ih4 _ _ _ _ _ _ _
      | exact ih5 _ _ _ _ _ _
      | exact bazaarref03_Get.mono _ _
      | exact bazaarref10_Right.mono _ _ _ _ _
      | exact LeO.none _
      | refine LeO.ite ?_ ?_
      | refine LeO.bind ?_ (fun _ => ?_)
theorem bazaarref10_Parse.mono : ∀ a0 k, LeO (bazaarref10_Parse.f k a0) (bazaarref10_Parse.f (k + 1) a0) := by
  intro a0 k
  obtain ⟨ih0, ih1, ih2, ih3, ih4, ih5⟩ := bazaarref10_Parse.mono_l k
  unfold bazaarref10_Parse.f
  repeat' first
      | (with_reducible exact ih0 _ _ _ _ _ _ _)
      | (with_reducible exact ih1 _ _ _ _ _ _ _)
      | (with_reducible exact ih2 _ _ _ _ _ _ _)
      | (with_reducible exact ih3 _ _ _ _ _ _ _)
      | (with_reducible exact ih4 _ _ _ _ _ _ _)
      | (with_reducible exact ih5 _ _ _ _ _ _)
      | (with_reducible exact bazaarref03_Get.mono _ _)
      | (with_reducible exact bazaarref10_Right.mono _ _ _ _ _)
      | (with_reducible exact LeO.refl _)
      | (with_reducible exact LeO.none _)
      | (with_reducible refine LeO.ite ?_ ?_)
      | (with_reducible refine LeO.bind ?_ (fun _ => ?_))
      | exact ih0 _ _ _ _ _ _ _
      | exact ih1 _ _ _ _ _ _ _
      | exact ih2 _ _ _ _ _ _ _
      | exact ih3 _ _ _ _ _ _ _
      | exact ih4 _ _ _ _ _ _ _
      | exact ih5 _ _ _ _ _ _
      | exact bazaarref03_Get.mono _ _
      | exact bazaarref10_Right.mono _ _ _ _ _
      | exact LeO.none _
      | refine LeO.ite ?_ ?_
      | refine LeO.bind ?_ (fun _ => ?_)
def bazaarref10_Parse.T8 : Bool × List (List Nat × List Nat) := (true, [([], []), ([0], [0]), ([1], [1]), ([2], [2]), ([], []), ([4], [4]), ([5, 2], [5]), ([6], [6]), ([3, 7], [3, 7]), ([8, 6, 0, 1, 2, 3, 4, 5, 6, 7, 8], [8])])
def bazaarref10_Parse.B8 : List Nat := [0, 1, 3, 7, 0, 16, 55, 119, 255, 511]
theorem bazaarref10_Parse.tab8 : rtab .any (opsOf Try.f12 8) = bazaarref10_Parse.T8 := by kernel_rfl
theorem bazaarref10_Parse.bits8 : waitsOk bazaarref10_Parse.T8.2 bazaarref10_Parse.B8 = true := by kernel_rfl
def bazaarref10_Parse.T10 : Bool × List (List Nat × List Nat) := (true, [([], []), ([0], [0]), ([1], [1]), ([2], [2]), ([], []), ([4], [4]), ([5, 2], [5]), ([6], [6]), ([3, 7], [3, 7]), ([8, 6, 0, 1, 2, 3, 4, 5, 6, 7, 8], [8])])
def bazaarref10_Parse.B10 : List Nat := [0, 1, 3, 7, 0, 16, 55, 119, 255, 511]
theorem bazaarref10_Parse.tab10 : rtab .any (opsOf Try.f12 10) = bazaarref10_Parse.T10 := by kernel_rfl
theorem bazaarref10_Parse.bits10 : waitsOk bazaarref10_Parse.T10.2 bazaarref10_Parse.B10 = true := by kernel_rfl
def bazaarref10_Parse.T16 : Bool × List (List Nat × List Nat) := (true, [([], []), ([0], [0]), ([1], [1]), ([], []), ([3], [3]), ([4], [4]), ([5], [5]), ([2, 6], [2, 6]), ([7, 5, 0, 1, 2, 3, 4, 5, 6, 7], [7])])
def bazaarref10_Parse.B16 : List Nat := [0, 1, 3, 0, 8, 24, 56, 127, 255]
theorem bazaarref10_Parse.tab16 : rtab .any (opsOf Try.f12 16) = bazaarref10_Parse.T16 := by kernel_rfl
theorem bazaarref10_Parse.bits16 : waitsOk bazaarref10_Parse.T16.2 bazaarref10_Parse.B16 = true := by kernel_rfl
set_option maxHeartbeats 8000000 in
set_option maxRecDepth 100000 in
theorem bazaarref10_Parse.calls (k : Nat) (a0 : ByteArray) (r1 : Int) (r2 : Int) (r3 : Int) (r4 : Int) (r5 : Int) (w : World) (h : bazaarref10_Parse.f k a0 = some (r1, r2, r3, r4, r5)) :
    Calls Try.prog 12 #[.string a0] w fun e w' => e = .returned (.tuple #[.agg #[.int .i64 r1, .int .u32 r2, .int .u16 r3, .int .u32 r4], .int .i64 r5]) ∧ Below w.heap.size w w' := by
  have hu25 := Try.underlying25
  have HB := Aside0.mk (Below.refl w.heap.size w)
  have H : (if a0.toList = ([] : List UInt8) then (some (0, 0, 0, 0, 100)) else (if 0 < (a0.size : Int) then (if (bt a0 0) = 97 then (bazaarref10_Parse.j0 k a0 (a0.size : Int) ((a0.size : Int) == 5) 0 0 0 0) else (bazaarref10_Parse.j0 k a0 (a0.size : Int) false 0 0 0 0)) else (none))) = some (r1, r2, r3, r4, r5) := h
  clear h
  by_cases c2 : a0.toList = ([] : List UInt8)
  · rw [if_pos c2] at H
    have c2b0 : (a0.toList == ([] : List UInt8)) = true := beq_iff_eq.mpr c2
    have c2b1 : (a0.toList != ([] : List UInt8)) = false := bne_eq_false_iff_eq.mpr c2
    clear c2
    simp only [Option.some.injEq, Prod.mk.injEq] at H
    obtain ⟨rfl, rfl, rfl, rfl, rfl⟩ := H
    go_enter Try.func12, Try.ntmps12
    go_wp2_with (first | ((with_reducible refine gate_dst (N := 2) rfl ?_); refine box_event ?hg (N := 2) ?hd (cs := #[.int .i64 0, .int .u32 0, .int .u16 0, .int .u32 0]) (t := 25) ?hr ?_; (case hd => rfl); (case hg => rfl); (case hr => first | (go_simp; done) | (go_simp; rfl)); intro gb156 hg w3 hbox hb; have n0_ := Aside0.mk (below_step (by repeat (first | (with_reducible first | exact HB.out | apply below_alloc | apply pw_below_drewN | apply below_drew1) | exact HB.out)) hb); have n1_ := Aside0.mk (hbox); have n2_ := Aside0.mk ((by rw [hg]; exact (below_size (by repeat (first | (with_reducible first | exact HB.out | apply below_alloc | apply pw_below_drewN | apply below_drew1) | exact HB.out))) : w.heap.size ≤ gb156)); have n3_ := Aside0.mk ((by rw [hg]; exact (below_size (by repeat (first | (with_reducible first | exact HB.out | apply below_alloc | apply pw_below_drewN | apply below_drew1) | exact HB.out))) : w.heap.size ≤ gb156)); clear HB; have HB := n0_; have BK156 := n1_; have GW156 := n2_; have GE156 := n3_; clear n0_ n1_ n2_ n3_; clear hb hbox hg) | ((with_reducible refine gate_dst (N := 4) rfl ?_); refine box_event ?hg (N := 4) ?hd (cs := #[.int .i64 0, .int .u32 0, .int .u16 0, .int .u32 0]) (t := 25) ?hr ?_; (case hd => rfl); (case hg => rfl); (case hr => first | (go_simp; done) | (go_simp; rfl)); intro gb157 hg w4 hbox hb; have n0_ := Aside0.mk (blk_below (g := gb156) (o := .cells #[.int .i64 0, .int .u32 0, .int .u16 0, .int .u32 0] 25 (0, 0)) (by (with_reducible repeat (first | refine blk_drewN ?_ _ | refine blk_drew ?_ | refine blk_alloc ?_ _)); exact BK156.out) hb); have n1_ := Aside0.mk (below_step (by repeat (first | (with_reducible first | exact HB.out | apply below_alloc | apply pw_below_drewN | apply below_drew1 | refine below_set ?_ GE156.out) | exact HB.out)) hb); have n2_ := Aside0.mk (hbox); have n3_ := Aside0.mk ((by rw [hg]; exact (below_size (by repeat (first | (with_reducible first | exact HB.out | apply below_alloc | apply pw_below_drewN | apply below_drew1 | refine below_set ?_ GE156.out) | exact HB.out))) : w.heap.size ≤ gb157)); have n4_ := Aside0.mk ((by rw [hg]; exact (below_size (by repeat (first | (with_reducible first | exact HB.out | apply below_alloc | apply pw_below_drewN | apply below_drew1 | refine below_set ?_ GE156.out) | exact HB.out))) : w.heap.size ≤ gb157)); have n5_ := Aside0.mk ((by rw [hg]; exact Nat.ne_of_lt (blk_lt (g := gb156) (o := .cells #[.int .i64 0, .int .u32 0, .int .u16 0, .int .u32 0] 25 (0, 0)) (by (with_reducible repeat (first | refine blk_drewN ?_ _ | refine blk_drew ?_ | refine blk_alloc ?_ _)); exact BK156.out)) : gb156 ≠ gb157)); have n6_ := Aside0.mk ((by rw [hg]; exact Nat.ne_of_gt (blk_lt (g := gb156) (o := .cells #[.int .i64 0, .int .u32 0, .int .u16 0, .int .u32 0] 25 (0, 0)) (by (with_reducible repeat (first | refine blk_drewN ?_ _ | refine blk_drew ?_ | refine blk_alloc ?_ _)); exact BK156.out)) : gb157 ≠ gb156)); clear BK156; clear HB; have BK156 := n0_; have HB := n1_; have BK157 := n2_; have GW157 := n3_; have GE157 := n4_; have NB156_157 := n5_; have NB157_156 := n6_; clear n0_ n1_ n2_ n3_ n4_ n5_ n6_; clear hb hbox hg; have hnb5 := NB157_156.out; have hnc5 := NB156_157.out; have hcz6_0 : w4.cell? ⟨gb157, 0, none⟩ = some (.int .i64 0) := (blk_cell BK157.out 0).trans rfl; have hcz6_1 : w4.cell? ⟨gb157, 1, none⟩ = some (.int .u32 0) := (blk_cell BK157.out 1).trans rfl; have hcz6_2 : w4.cell? ⟨gb157, 2, none⟩ = some (.int .u16 0) := (blk_cell BK157.out 2).trans rfl; have hcz6_3 : w4.cell? ⟨gb157, 3, none⟩ = some (.int .u32 0) := (blk_cell BK157.out 3).trans rfl; have hfz6_0 := blk_frozen BK157.out 0; have hfz6_1 := blk_frozen BK157.out 1; have hfz6_2 := blk_frozen BK157.out 2; have hfz6_3 := blk_frozen BK157.out 3; have hcz7_0 : w4.cell? ⟨gb156, 0, none⟩ = some (.int .i64 0) := (blk_cell BK156.out 0).trans rfl; have hcz7_1 : w4.cell? ⟨gb156, 1, none⟩ = some (.int .u32 0) := (blk_cell BK156.out 1).trans rfl; have hcz7_2 : w4.cell? ⟨gb156, 2, none⟩ = some (.int .u16 0) := (blk_cell BK156.out 2).trans rfl; have hcz7_3 : w4.cell? ⟨gb156, 3, none⟩ = some (.int .u32 0) := (blk_cell BK156.out 3).trans rfl; have hfz7_0 := blk_frozen BK156.out 0; have hfz7_1 := blk_frozen BK156.out 1; have hfz7_2 := blk_frozen BK156.out 2; have hfz7_3 := blk_frozen BK156.out 3))
    refine bodyPost_ret (results_ct rfl _ _ gb156 25 #[.int .i64 0, .int .u32 0, .int .u16 0, .int .u32 0] (0, 0) _ rfl (by (with_reducible repeat (first | refine blk_drewN ?_ _ | refine blk_drew ?_ | refine blk_alloc ?_ _)); refine blk_put (cs := #[.int .i64 0, .int .u32 0, .int .u16 0, .int .u32 0]) ?_ 3 _ rfl; (with_reducible repeat (first | refine blk_drewN ?_ _ | refine blk_drew ?_ | refine blk_alloc ?_ _)); refine blk_put (cs := #[.int .i64 0, .int .u32 0, .int .u16 0, .int .u32 0]) ?_ 2 _ rfl; (with_reducible repeat (first | refine blk_drewN ?_ _ | refine blk_drew ?_ | refine blk_alloc ?_ _)); refine blk_put (cs := #[.int .i64 0, .int .u32 0, .int .u16 0, .int .u32 0]) ?_ 1 _ rfl; (with_reducible repeat (first | refine blk_drewN ?_ _ | refine blk_drew ?_ | refine blk_alloc ?_ _)); refine blk_put (cs := #[.int .i64 0, .int .u32 0, .int .u16 0, .int .u32 0]) ?_ 0 _ rfl; (with_reducible repeat (first | refine blk_drewN ?_ _ | refine blk_drew ?_ | refine blk_alloc ?_ _)); exact BK156.out) Try.underlying25 rfl (by kernel_rfl)) rfl ?_
    exact ⟨by first | rfl | (simp [errW_none, errW_some] <;> rfl) | (simp [*, errW_none, errW_some] <;> rfl), by repeat (first | (with_reducible first | exact HB.out | apply below_alloc | apply pw_below_drewN | apply below_drew1 | refine below_set ?_ GE156.out | refine below_set ?_ GE157.out) | exact HB.out)⟩
  · rw [if_neg c2] at H
    have c2b0 : (a0.toList == ([] : List UInt8)) = false := beq_eq_false_iff_ne.mpr c2
    have c2b1 : (a0.toList != ([] : List UInt8)) = true := bne_iff_ne.mpr c2
    have HC8 := Aside0.mk H
    clear H
    go_enter Try.func12, Try.ntmps12
    go_upto_region 5 with (first | ((with_reducible refine gate_dst (N := 2) rfl ?_); refine box_event ?hg (N := 2) ?hd (cs := #[.int .i64 0, .int .u32 0, .int .u16 0, .int .u32 0]) (t := 25) ?hr ?_; (case hd => rfl); (case hg => rfl); (case hr => first | (go_simp; done) | (go_simp; rfl)); intro gb156 hg w9 hbox hb; have n0_ := Aside0.mk (below_step (by repeat (first | (with_reducible first | exact HB.out | apply below_alloc | apply pw_below_drewN | apply below_drew1) | exact HB.out)) hb); have n1_ := Aside0.mk (hbox); have n2_ := Aside0.mk ((by rw [hg]; exact (below_size (by repeat (first | (with_reducible first | exact HB.out | apply below_alloc | apply pw_below_drewN | apply below_drew1) | exact HB.out))) : w.heap.size ≤ gb156)); have n3_ := Aside0.mk ((by rw [hg]; exact (below_size (by repeat (first | (with_reducible first | exact HB.out | apply below_alloc | apply pw_below_drewN | apply below_drew1) | exact HB.out))) : w.heap.size ≤ gb156)); clear HB; have HB := n0_; have BK156 := n1_; have GW156 := n2_; have GE156 := n3_; clear n0_ n1_ n2_ n3_; clear hb hbox hg) | ((with_reducible refine gate_dst (N := 4) rfl ?_); refine box_event ?hg (N := 4) ?hd (cs := #[.int .i64 0, .int .u32 0, .int .u16 0, .int .u32 0]) (t := 25) ?hr ?_; (case hd => rfl); (case hg => rfl); (case hr => first | (go_simp; done) | (go_simp; rfl)); intro gb157 hg w10 hbox hb; have n0_ := Aside0.mk (blk_below (g := gb156) (o := .cells #[.int .i64 0, .int .u32 0, .int .u16 0, .int .u32 0] 25 (0, 0)) (by (with_reducible repeat (first | refine blk_drewN ?_ _ | refine blk_drew ?_ | refine blk_alloc ?_ _)); exact BK156.out) hb); have n1_ := Aside0.mk (below_step (by repeat (first | (with_reducible first | exact HB.out | apply below_alloc | apply pw_below_drewN | apply below_drew1 | refine below_set ?_ GE156.out) | exact HB.out)) hb); have n2_ := Aside0.mk (hbox); have n3_ := Aside0.mk ((by rw [hg]; exact (below_size (by repeat (first | (with_reducible first | exact HB.out | apply below_alloc | apply pw_below_drewN | apply below_drew1 | refine below_set ?_ GE156.out) | exact HB.out))) : w.heap.size ≤ gb157)); have n4_ := Aside0.mk ((by rw [hg]; exact (below_size (by repeat (first | (with_reducible first | exact HB.out | apply below_alloc | apply pw_below_drewN | apply below_drew1 | refine below_set ?_ GE156.out) | exact HB.out))) : w.heap.size ≤ gb157)); have n5_ := Aside0.mk ((by rw [hg]; exact Nat.ne_of_lt (blk_lt (g := gb156) (o := .cells #[.int .i64 0, .int .u32 0, .int .u16 0, .int .u32 0] 25 (0, 0)) (by (with_reducible repeat (first | refine blk_drewN ?_ _ | refine blk_drew ?_ | refine blk_alloc ?_ _)); exact BK156.out)) : gb156 ≠ gb157)); have n6_ := Aside0.mk ((by rw [hg]; exact Nat.ne_of_gt (blk_lt (g := gb156) (o := .cells #[.int .i64 0, .int .u32 0, .int .u16 0, .int .u32 0] 25 (0, 0)) (by (with_reducible repeat (first | refine blk_drewN ?_ _ | refine blk_drew ?_ | refine blk_alloc ?_ _)); exact BK156.out)) : gb157 ≠ gb156)); clear BK156; clear HB; have BK156 := n0_; have HB := n1_; have BK157 := n2_; have GW157 := n3_; have GE157 := n4_; have NB156_157 := n5_; have NB157_156 := n6_; clear n0_ n1_ n2_ n3_ n4_ n5_ n6_; clear hb hbox hg))
    (try simp only [Act.put, List.setIfInBounds_toArray, List.set_cons_zero, List.set_cons_succ])
    go_cut [12] (fun v12 wc => ∃ (kq : Nat) (x12_7 : Bool), v12 = .bool x12_7 ∧ Aside0 (bazaarref10_Parse.j0 kq a0 (a0.size : Int) x12_7 0 0 0 0 = some (r1, r2, r3, r4, r5)) ∧ Aside0 (kq ≤ k) ∧ Aside0 (wc.heap[gb156]? = some (.cells #[.int .i64 0, .int .u32 0, .int .u16 0, .int .u32 0] 25 (0, 0))) ∧ Aside0 (wc.heap[gb157]? = some (.cells #[.int .i64 0, .int .u32 0, .int .u16 0, .int .u32 0] 25 (0, 0))) ∧ Aside0 (Below w.heap.size w wc))
    case first =>
      have H := HC8.out
      clear HC8
      by_cases c11 : 0 < (a0.size : Int)
      · rw [if_pos c11] at H
        have c11b0 : decide (0 < (a0.size : Int)) = true := decide_eq_true c11
        have c11b1 : decide (0 < a0.size) = true := decide_eq_true (by omega)
        clear c11
        (first | rw [c11b0] | (simp only [i64_w, i32_w]; rw [c11b0]) | skip)
        by_cases c13 : (bt a0 0) = 97
        · rw [if_pos c13] at H
          have c13b0 : ((bt a0 0) == 97) = true := beq_iff_eq.mpr c13
          have c13b1 : ((bt a0 0) != 97) = false := bne_eq_false_iff_eq.mpr c13
          clear c13
          have H' := Aside0.mk H
          clear H
          have p12 : 0 ≤ (0 : Int) := (by omega)
          have q12 : 0 < a0.size := (by have : (0 : Int) < (a0.size : Int) := of_decide_eq_true (by first | (with_reducible assumption) | assumption); omega)
          have hx12 : ∀ h : 0 < a0.size, ((a0[0]'h).toNat : Int) = bt a0 0 := bt_at a0 0
          clear p12
          have qi12 : (0 < (a0.size : Int)) = True := eq_true (of_decide_eq_true (by first | (with_reducible assumption) | assumption))
          replace q12 := eq_true q12
          go_wp2
          go_meet
          case rel => exact ⟨_, (((a0.size : Int) == 5)), (by first | rfl | (simp; done) | (simp [*]; done)), H', ⟨by first | omega | exact Nat.le_refl _⟩, ⟨by (with_reducible repeat (first | refine blk_drewN ?_ _ | refine blk_drew ?_ | refine blk_alloc ?_ _)); exact BK156.out⟩, ⟨by (with_reducible repeat (first | refine blk_drewN ?_ _ | refine blk_drew ?_ | refine blk_alloc ?_ _)); exact BK157.out⟩, ⟨by repeat (first | (with_reducible first | exact HB.out | apply below_alloc | apply pw_below_drewN | apply below_drew1 | refine below_set ?_ GE156.out | refine below_set ?_ GE157.out) | exact HB.out)⟩⟩
        · rw [if_neg c13] at H
          have c13b0 : ((bt a0 0) == 97) = false := beq_eq_false_iff_ne.mpr c13
          have c13b1 : ((bt a0 0) != 97) = true := bne_iff_ne.mpr c13
          have H' := Aside0.mk H
          clear H
          have p12 : 0 ≤ (0 : Int) := (by omega)
          have q12 : 0 < a0.size := (by have : (0 : Int) < (a0.size : Int) := of_decide_eq_true (by first | (with_reducible assumption) | assumption); omega)
          have hx12 : ∀ h : 0 < a0.size, ((a0[0]'h).toNat : Int) = bt a0 0 := bt_at a0 0
          clear p12
          have qi12 : (0 < (a0.size : Int)) = True := eq_true (of_decide_eq_true (by first | (with_reducible assumption) | assumption))
          replace q12 := eq_true q12
          go_wp2
          go_meet
          case rel => exact ⟨_, (false), (by first | rfl | (simp; done) | (simp [*]; done)), H', ⟨by first | omega | exact Nat.le_refl _⟩, ⟨by (with_reducible repeat (first | refine blk_drewN ?_ _ | refine blk_drew ?_ | refine blk_alloc ?_ _)); exact BK156.out⟩, ⟨by (with_reducible repeat (first | refine blk_drewN ?_ _ | refine blk_drew ?_ | refine blk_alloc ?_ _)); exact BK157.out⟩, ⟨by repeat (first | (with_reducible first | exact HB.out | apply below_alloc | apply pw_below_drewN | apply below_drew1 | refine below_set ?_ GE156.out | refine below_set ?_ GE157.out) | exact HB.out)⟩⟩
      · rw [if_neg c11] at H
        exact absurd H (by simp)
    case rest =>
      clear HC8
      try clear c1
      try clear p1
      try clear q1
      try clear hx1
      try clear qi1
      try clear c2
      try clear c2b0
      try clear c2b1
      try clear p2
      try clear c5
      try clear c11
      try clear c11b0
      try clear c11b1
      try clear c12
      try clear p12
      try clear q12
      try clear hx12
      try clear qi12
      try clear c13
      try clear c13b0
      try clear c13b1
      try clear hcz6_0
      try clear hcz6_1
      try clear hcz6_2
      try clear hcz6_3
      try clear hcz7_0
      try clear hcz7_1
      try clear hcz7_2
      try clear hcz7_3
      try clear hfz6_0
      try clear hfz6_1
      try clear hfz6_2
      try clear hfz6_3
      try clear hfz7_0
      try clear hfz7_1
      try clear hfz7_2
      try clear hfz7_3
      try clear p12
      try clear q12
      obtain ⟨kq, x12_7, rfl, HA, HJ7, BK156, BK157, HB⟩ := hcut
      cases kq with
      | zero => exact absurd HA.out (by simp [bazaarref10_Parse.j0])
      | succ kj7 =>
        have H := HA.out
        clear HA
        simp only [bazaarref10_Parse.j0] at H
        by_cases c14 : x12_7 = true
        · subst c14
          have H1 : (if 1 ≤ 5 then (if 5 ≤ (a0.size : Int) then ((bazaarref03_Get.f kj7 (a0.extract 1 5)).bind fun t158 => ((bazaarref10_Right.f kj7 1 ((t158) % 4294967296) 0 0).bind fun t159 => (if t159 = true then (some (1, (t158) % 4294967296, 0, 0, 0)) else (some (0, 0, 0, 0, 100))))) else (none)) else (none)) = some (r1, r2, r3, r4, r5) := by rw [if_pos rfl] at H; exact H
          clear H
          have H := H1
          clear H1
          by_cases c15 : 1 ≤ 5
          · rw [if_pos c15] at H
            have c15b0 := eq_true c15
            have c15b1 : decide (1 ≤ 5) = true := decide_eq_true c15
            clear c15
            by_cases c16 : 5 ≤ (a0.size : Int)
            · rw [if_pos c16] at H
              have c16b0 := eq_true c16
              have c16b1 : decide (5 ≤ (a0.size : Int)) = true := decide_eq_true c16
              clear c16
              replace H := Option.bind_eq_some_iff.mp H
              obtain ⟨t158, A170, H⟩ := H
              replace H : ((bazaarref10_Right.f kj7 1 ((t158) % 4294967296) 0 0).bind fun t159 => (if t159 = true then (some (1, (t158) % 4294967296, 0, 0, 0)) else (some (0, 0, 0, 0, 100)))) = some (r1, r2, r3, r4, r5) := H
              have A17 := Aside0.mk A170
              clear A170
              replace H := Option.bind_eq_some_iff.mp H
              obtain ⟨t159, A180, H⟩ := H
              replace H : (if t159 = true then (some (1, (t158) % 4294967296, 0, 0, 0)) else (some (0, 0, 0, 0, 100))) = some (r1, r2, r3, r4, r5) := H
              have A18 := Aside0.mk A180
              clear A180
              by_cases c19 : t159 = true
              · subst c19
                have H1 : (some (1, (t158) % 4294967296, 0, 0, 0)) = some (r1, r2, r3, r4, r5) := by rw [if_pos rfl] at H; exact H
                clear H
                have H := H1
                clear H1
                simp only [Option.some.injEq, Prod.mk.injEq] at H
                obtain ⟨rfl, rfl, rfl, rfl, rfl⟩ := H
                go_wp2_with (first | ((with_reducible refine gate_callee (f := 22) rfl ?_); refine goesL_ (some 22) rfl rfl Try.func22 (by kernel_rfl) rfl #[.string (a0.extract 1 5)] rfl (by (try simp only [List.map_toArray, List.map_cons, List.map_nil]); first | done | rfl | (simp only [List.length_drop, List.length_take]; rfl)) ?_; (with_reducible refine (bazaarref03_Get.calls kj7 (a0.extract 1 5) t158 _ A17.out).mono ?_); rintro e w' ⟨rfl, ⟨nd, rfl⟩⟩; refine ⟨_, rfl, ?_⟩; (try (rw [drewN_self wc]; generalize hq_ : World.drewN wc _ = wc; have n0_ : Aside0 (wc.heap[gb156]? = some (.cells #[.int .i64 0, .int .u32 0, .int .u16 0, .int .u32 0] 25 (0, 0))) := ⟨by rw [← hq_]; exact (by (with_reducible repeat (first | refine blk_drewN ?_ _ | refine blk_drew ?_ | refine blk_alloc ?_ _)); exact BK156.out)⟩; have n1_ : Aside0 (wc.heap[gb157]? = some (.cells #[.int .i64 0, .int .u32 0, .int .u16 0, .int .u32 0] 25 (0, 0))) := ⟨by rw [← hq_]; exact (by (with_reducible repeat (first | refine blk_drewN ?_ _ | refine blk_drew ?_ | refine blk_alloc ?_ _)); exact BK157.out)⟩; have n2_ : Aside0 (Below w.heap.size w wc) := ⟨by rw [← hq_]; exact (by repeat (first | (with_reducible first | exact HB.out | apply below_alloc | apply pw_below_drewN | apply below_drew1 | refine below_set ?_ GE156.out | refine below_set ?_ GE157.out) | exact HB.out))⟩; clear BK156 BK157 HB hq_; have BK156 := n0_; have BK157 := n1_; have HB := n2_; clear n0_ n1_ n2_)); have hnb20 := NB157_156.out; have hnc20 := NB156_157.out; have hcz21_0 : wc.cell? ⟨gb157, 0, none⟩ = some (.int .i64 0) := (blk_cell BK157.out 0).trans rfl; have hcz21_1 : wc.cell? ⟨gb157, 1, none⟩ = some (.int .u32 0) := (blk_cell BK157.out 1).trans rfl; have hcz21_2 : wc.cell? ⟨gb157, 2, none⟩ = some (.int .u16 0) := (blk_cell BK157.out 2).trans rfl; have hcz21_3 : wc.cell? ⟨gb157, 3, none⟩ = some (.int .u32 0) := (blk_cell BK157.out 3).trans rfl; have hfz21_0 := blk_frozen BK157.out 0; have hfz21_1 := blk_frozen BK157.out 1; have hfz21_2 := blk_frozen BK157.out 2; have hfz21_3 := blk_frozen BK157.out 3) | ((with_reducible refine gate_callee (f := 14) rfl ?_); refine goesL_ (some 101) rfl rfl Try.func14 (by kernel_rfl) rfl #[.agg #[.int .i64 1, .int .u32 ((t158) % 4294967296), .int .u16 0, .int .u32 0]] rfl (by (try simp only [List.map_toArray, List.map_cons, List.map_nil]); first | done | rfl | (simp only [List.length_drop, List.length_take]; rfl)) ?_; (with_reducible refine (bazaarref10_Right.calls kj7 1 ((t158) % 4294967296) 0 0 true _ A18.out).mono ?_); rintro e w22 ⟨rfl, hb⟩; refine ⟨_, rfl, ?_⟩; have n0_ := Aside0.mk (blk_below (g := gb156) (o := .cells #[.int .i64 0, .int .u32 0, .int .u16 0, .int .u32 0] 25 (0, 0)) (by (with_reducible repeat (first | refine blk_drewN ?_ _ | refine blk_drew ?_ | refine blk_alloc ?_ _)); refine blk_far ?_ NB156_157.out _; (with_reducible repeat (first | refine blk_drewN ?_ _ | refine blk_drew ?_ | refine blk_alloc ?_ _)); refine blk_far ?_ NB156_157.out _; (with_reducible repeat (first | refine blk_drewN ?_ _ | refine blk_drew ?_ | refine blk_alloc ?_ _)); refine blk_far ?_ NB156_157.out _; (with_reducible repeat (first | refine blk_drewN ?_ _ | refine blk_drew ?_ | refine blk_alloc ?_ _)); refine blk_far ?_ NB156_157.out _; (with_reducible repeat (first | refine blk_drewN ?_ _ | refine blk_drew ?_ | refine blk_alloc ?_ _)); exact BK156.out) hb); have n1_ := Aside0.mk (blk_below (g := gb157) (o := .cells #[.int .i64 1, .int .u32 ((t158) % 4294967296), .int .u16 0, .int .u32 0] 25 (0, 0)) (by (with_reducible repeat (first | refine blk_drewN ?_ _ | refine blk_drew ?_ | refine blk_alloc ?_ _)); refine blk_put (cs := #[.int .i64 1, .int .u32 ((t158) % 4294967296), .int .u16 0, .int .u32 0]) ?_ 3 _ rfl; (with_reducible repeat (first | refine blk_drewN ?_ _ | refine blk_drew ?_ | refine blk_alloc ?_ _)); refine blk_put (cs := #[.int .i64 1, .int .u32 ((t158) % 4294967296), .int .u16 0, .int .u32 0]) ?_ 2 _ rfl; (with_reducible repeat (first | refine blk_drewN ?_ _ | refine blk_drew ?_ | refine blk_alloc ?_ _)); refine blk_put (cs := #[.int .i64 1, .int .u32 0, .int .u16 0, .int .u32 0]) ?_ 1 _ rfl; (with_reducible repeat (first | refine blk_drewN ?_ _ | refine blk_drew ?_ | refine blk_alloc ?_ _)); refine blk_put (cs := #[.int .i64 0, .int .u32 0, .int .u16 0, .int .u32 0]) ?_ 0 _ rfl; (with_reducible repeat (first | refine blk_drewN ?_ _ | refine blk_drew ?_ | refine blk_alloc ?_ _)); exact BK157.out) hb); have n2_ := Aside0.mk (below_step (by repeat (first | (with_reducible first | exact HB.out | apply below_alloc | apply pw_below_drewN | apply below_drew1 | refine below_set ?_ GE156.out | refine below_set ?_ GE157.out) | exact HB.out)) hb); clear BK156; clear BK157; clear HB; have BK156 := n0_; have BK157 := n1_; have HB := n2_; clear n0_ n1_ n2_; (try clear hb); (try clear hb2); (try clear hk); (try clear hi); have hcz23_0 : w22.cell? ⟨gb157, 0, none⟩ = some (.int .i64 1) := (blk_cell BK157.out 0).trans rfl; have hcz23_1 : w22.cell? ⟨gb157, 1, none⟩ = some (.int .u32 ((t158) % 4294967296)) := (blk_cell BK157.out 1).trans rfl; have hcz23_2 : w22.cell? ⟨gb157, 2, none⟩ = some (.int .u16 0) := (blk_cell BK157.out 2).trans rfl; have hcz23_3 : w22.cell? ⟨gb157, 3, none⟩ = some (.int .u32 0) := (blk_cell BK157.out 3).trans rfl; have hfz23_0 := blk_frozen BK157.out 0; have hfz23_1 := blk_frozen BK157.out 1; have hfz23_2 := blk_frozen BK157.out 2; have hfz23_3 := blk_frozen BK157.out 3; have hcz24_0 : w22.cell? ⟨gb156, 0, none⟩ = some (.int .i64 0) := (blk_cell BK156.out 0).trans rfl; have hcz24_1 : w22.cell? ⟨gb156, 1, none⟩ = some (.int .u32 0) := (blk_cell BK156.out 1).trans rfl; have hcz24_2 : w22.cell? ⟨gb156, 2, none⟩ = some (.int .u16 0) := (blk_cell BK156.out 2).trans rfl; have hcz24_3 : w22.cell? ⟨gb156, 3, none⟩ = some (.int .u32 0) := (blk_cell BK156.out 3).trans rfl; have hfz24_0 := blk_frozen BK156.out 0; have hfz24_1 := blk_frozen BK156.out 1; have hfz24_2 := blk_frozen BK156.out 2; have hfz24_3 := blk_frozen BK156.out 3))
                refine bodyPost_ret (results_ct rfl _ _ gb156 25 #[.int .i64 1, .int .u32 ((t158) % 4294967296), .int .u16 0, .int .u32 0] (0, 0) _ rfl (by (with_reducible repeat (first | refine blk_drewN ?_ _ | refine blk_drew ?_ | refine blk_alloc ?_ _)); refine blk_put (cs := #[.int .i64 1, .int .u32 ((t158) % 4294967296), .int .u16 0, .int .u32 0]) ?_ 3 _ rfl; (with_reducible repeat (first | refine blk_drewN ?_ _ | refine blk_drew ?_ | refine blk_alloc ?_ _)); refine blk_put (cs := #[.int .i64 1, .int .u32 ((t158) % 4294967296), .int .u16 0, .int .u32 0]) ?_ 2 _ rfl; (with_reducible repeat (first | refine blk_drewN ?_ _ | refine blk_drew ?_ | refine blk_alloc ?_ _)); refine blk_put (cs := #[.int .i64 1, .int .u32 0, .int .u16 0, .int .u32 0]) ?_ 1 _ rfl; (with_reducible repeat (first | refine blk_drewN ?_ _ | refine blk_drew ?_ | refine blk_alloc ?_ _)); refine blk_put (cs := #[.int .i64 0, .int .u32 0, .int .u16 0, .int .u32 0]) ?_ 0 _ rfl; (with_reducible repeat (first | refine blk_drewN ?_ _ | refine blk_drew ?_ | refine blk_alloc ?_ _)); exact BK156.out) Try.underlying25 rfl (by kernel_rfl)) rfl ?_
                exact ⟨by first | rfl | (simp [errW_none, errW_some] <;> rfl) | (simp [*, errW_none, errW_some] <;> rfl), by repeat (first | (with_reducible first | exact HB.out | apply below_alloc | apply pw_below_drewN | apply below_drew1 | refine below_set ?_ GE156.out | refine below_set ?_ GE157.out) | exact HB.out)⟩
              · replace c19 := Bool.eq_false_iff.mpr c19
                subst c19
                have H1 : (some (0, 0, 0, 0, 100)) = some (r1, r2, r3, r4, r5) := by rw [if_neg (show ¬ (false = true) by decide)] at H; exact H
                clear H
                have H := H1
                clear H1
                simp only [Option.some.injEq, Prod.mk.injEq] at H
                obtain ⟨rfl, rfl, rfl, rfl, rfl⟩ := H
                go_wp2_with (first | ((with_reducible refine gate_callee (f := 22) rfl ?_); refine goesL_ (some 22) rfl rfl Try.func22 (by kernel_rfl) rfl #[.string (a0.extract 1 5)] rfl (by (try simp only [List.map_toArray, List.map_cons, List.map_nil]); first | done | rfl | (simp only [List.length_drop, List.length_take]; rfl)) ?_; (with_reducible refine (bazaarref03_Get.calls kj7 (a0.extract 1 5) t158 _ A17.out).mono ?_); rintro e w' ⟨rfl, ⟨nd, rfl⟩⟩; refine ⟨_, rfl, ?_⟩; (try (rw [drewN_self wc]; generalize hq_ : World.drewN wc _ = wc; have n0_ : Aside0 (wc.heap[gb156]? = some (.cells #[.int .i64 0, .int .u32 0, .int .u16 0, .int .u32 0] 25 (0, 0))) := ⟨by rw [← hq_]; exact (by (with_reducible repeat (first | refine blk_drewN ?_ _ | refine blk_drew ?_ | refine blk_alloc ?_ _)); exact BK156.out)⟩; have n1_ : Aside0 (wc.heap[gb157]? = some (.cells #[.int .i64 0, .int .u32 0, .int .u16 0, .int .u32 0] 25 (0, 0))) := ⟨by rw [← hq_]; exact (by (with_reducible repeat (first | refine blk_drewN ?_ _ | refine blk_drew ?_ | refine blk_alloc ?_ _)); exact BK157.out)⟩; have n2_ : Aside0 (Below w.heap.size w wc) := ⟨by rw [← hq_]; exact (by repeat (first | (with_reducible first | exact HB.out | apply below_alloc | apply pw_below_drewN | apply below_drew1 | refine below_set ?_ GE156.out | refine below_set ?_ GE157.out) | exact HB.out))⟩; clear BK156 BK157 HB hq_; have BK156 := n0_; have BK157 := n1_; have HB := n2_; clear n0_ n1_ n2_)); have hnb25 := NB157_156.out; have hnc25 := NB156_157.out; have hcz26_0 : wc.cell? ⟨gb157, 0, none⟩ = some (.int .i64 0) := (blk_cell BK157.out 0).trans rfl; have hcz26_1 : wc.cell? ⟨gb157, 1, none⟩ = some (.int .u32 0) := (blk_cell BK157.out 1).trans rfl; have hcz26_2 : wc.cell? ⟨gb157, 2, none⟩ = some (.int .u16 0) := (blk_cell BK157.out 2).trans rfl; have hcz26_3 : wc.cell? ⟨gb157, 3, none⟩ = some (.int .u32 0) := (blk_cell BK157.out 3).trans rfl; have hfz26_0 := blk_frozen BK157.out 0; have hfz26_1 := blk_frozen BK157.out 1; have hfz26_2 := blk_frozen BK157.out 2; have hfz26_3 := blk_frozen BK157.out 3) | ((with_reducible refine gate_callee (f := 14) rfl ?_); refine goesL_ (some 101) rfl rfl Try.func14 (by kernel_rfl) rfl #[.agg #[.int .i64 1, .int .u32 ((t158) % 4294967296), .int .u16 0, .int .u32 0]] rfl (by (try simp only [List.map_toArray, List.map_cons, List.map_nil]); first | done | rfl | (simp only [List.length_drop, List.length_take]; rfl)) ?_; (with_reducible refine (bazaarref10_Right.calls kj7 1 ((t158) % 4294967296) 0 0 false _ A18.out).mono ?_); rintro e w27 ⟨rfl, hb⟩; refine ⟨_, rfl, ?_⟩; have n0_ := Aside0.mk (blk_below (g := gb156) (o := .cells #[.int .i64 0, .int .u32 0, .int .u16 0, .int .u32 0] 25 (0, 0)) (by (with_reducible repeat (first | refine blk_drewN ?_ _ | refine blk_drew ?_ | refine blk_alloc ?_ _)); refine blk_far ?_ NB156_157.out _; (with_reducible repeat (first | refine blk_drewN ?_ _ | refine blk_drew ?_ | refine blk_alloc ?_ _)); refine blk_far ?_ NB156_157.out _; (with_reducible repeat (first | refine blk_drewN ?_ _ | refine blk_drew ?_ | refine blk_alloc ?_ _)); refine blk_far ?_ NB156_157.out _; (with_reducible repeat (first | refine blk_drewN ?_ _ | refine blk_drew ?_ | refine blk_alloc ?_ _)); refine blk_far ?_ NB156_157.out _; (with_reducible repeat (first | refine blk_drewN ?_ _ | refine blk_drew ?_ | refine blk_alloc ?_ _)); exact BK156.out) hb); have n1_ := Aside0.mk (blk_below (g := gb157) (o := .cells #[.int .i64 1, .int .u32 ((t158) % 4294967296), .int .u16 0, .int .u32 0] 25 (0, 0)) (by (with_reducible repeat (first | refine blk_drewN ?_ _ | refine blk_drew ?_ | refine blk_alloc ?_ _)); refine blk_put (cs := #[.int .i64 1, .int .u32 ((t158) % 4294967296), .int .u16 0, .int .u32 0]) ?_ 3 _ rfl; (with_reducible repeat (first | refine blk_drewN ?_ _ | refine blk_drew ?_ | refine blk_alloc ?_ _)); refine blk_put (cs := #[.int .i64 1, .int .u32 ((t158) % 4294967296), .int .u16 0, .int .u32 0]) ?_ 2 _ rfl; (with_reducible repeat (first | refine blk_drewN ?_ _ | refine blk_drew ?_ | refine blk_alloc ?_ _)); refine blk_put (cs := #[.int .i64 1, .int .u32 0, .int .u16 0, .int .u32 0]) ?_ 1 _ rfl; (with_reducible repeat (first | refine blk_drewN ?_ _ | refine blk_drew ?_ | refine blk_alloc ?_ _)); refine blk_put (cs := #[.int .i64 0, .int .u32 0, .int .u16 0, .int .u32 0]) ?_ 0 _ rfl; (with_reducible repeat (first | refine blk_drewN ?_ _ | refine blk_drew ?_ | refine blk_alloc ?_ _)); exact BK157.out) hb); have n2_ := Aside0.mk (below_step (by repeat (first | (with_reducible first | exact HB.out | apply below_alloc | apply pw_below_drewN | apply below_drew1 | refine below_set ?_ GE156.out | refine below_set ?_ GE157.out) | exact HB.out)) hb); clear BK156; clear BK157; clear HB; have BK156 := n0_; have BK157 := n1_; have HB := n2_; clear n0_ n1_ n2_; (try clear hb); (try clear hb2); (try clear hk); (try clear hi); have hcz28_0 : w27.cell? ⟨gb156, 0, none⟩ = some (.int .i64 0) := (blk_cell BK156.out 0).trans rfl; have hcz28_1 : w27.cell? ⟨gb156, 1, none⟩ = some (.int .u32 0) := (blk_cell BK156.out 1).trans rfl; have hcz28_2 : w27.cell? ⟨gb156, 2, none⟩ = some (.int .u16 0) := (blk_cell BK156.out 2).trans rfl; have hcz28_3 : w27.cell? ⟨gb156, 3, none⟩ = some (.int .u32 0) := (blk_cell BK156.out 3).trans rfl; have hfz28_0 := blk_frozen BK156.out 0; have hfz28_1 := blk_frozen BK156.out 1; have hfz28_2 := blk_frozen BK156.out 2; have hfz28_3 := blk_frozen BK156.out 3))
                refine bodyPost_ret (results_ct rfl _ _ gb156 25 #[.int .i64 0, .int .u32 0, .int .u16 0, .int .u32 0] (0, 0) _ rfl (by (with_reducible repeat (first | refine blk_drewN ?_ _ | refine blk_drew ?_ | refine blk_alloc ?_ _)); refine blk_put (cs := #[.int .i64 0, .int .u32 0, .int .u16 0, .int .u32 0]) ?_ 3 _ rfl; (with_reducible repeat (first | refine blk_drewN ?_ _ | refine blk_drew ?_ | refine blk_alloc ?_ _)); refine blk_put (cs := #[.int .i64 0, .int .u32 0, .int .u16 0, .int .u32 0]) ?_ 2 _ rfl; (with_reducible repeat (first | refine blk_drewN ?_ _ | refine blk_drew ?_ | refine blk_alloc ?_ _)); refine blk_put (cs := #[.int .i64 0, .int .u32 0, .int .u16 0, .int .u32 0]) ?_ 1 _ rfl; (with_reducible repeat (first | refine blk_drewN ?_ _ | refine blk_drew ?_ | refine blk_alloc ?_ _)); refine blk_put (cs := #[.int .i64 0, .int .u32 0, .int .u16 0, .int .u32 0]) ?_ 0 _ rfl; (with_reducible repeat (first | refine blk_drewN ?_ _ | refine blk_drew ?_ | refine blk_alloc ?_ _)); exact BK156.out) Try.underlying25 rfl (by kernel_rfl)) rfl ?_
                exact ⟨by first | rfl | (simp [errW_none, errW_some] <;> rfl) | (simp [*, errW_none, errW_some] <;> rfl), by repeat (first | (with_reducible first | exact HB.out | apply below_alloc | apply pw_below_drewN | apply below_drew1 | refine below_set ?_ GE156.out | refine below_set ?_ GE157.out) | exact HB.out)⟩
            · rw [if_neg c16] at H
              exact absurd H (by simp)
          · rw [if_neg c15] at H
            exact absurd H (by simp)
        · replace c14 := Bool.eq_false_iff.mpr c14
          subst c14
          have H1 : (if 0 < (a0.size : Int) then (if (bt a0 0) = 105 then (bazaarref10_Parse.j1 kj7 a0 (a0.size : Int) ((a0.size : Int) == 7) 0 0 0 0) else (bazaarref10_Parse.j1 kj7 a0 (a0.size : Int) false 0 0 0 0)) else (none)) = some (r1, r2, r3, r4, r5) := by rw [if_neg (show ¬ (false = true) by decide)] at H; exact H
          clear H
          have H := H1
          clear H1
          have HC29 := Aside0.mk H
          clear H
          go_upto_region 7 with (fail)
          go_cut [25] (fun v25 wc => ∃ (kq : Nat) (x25_28 : Bool), v25 = .bool x25_28 ∧ Aside0 (bazaarref10_Parse.j1 kq a0 (a0.size : Int) x25_28 0 0 0 0 = some (r1, r2, r3, r4, r5)) ∧ Aside0 (kq ≤ kj7) ∧ Aside0 (wc.heap[gb156]? = some (.cells #[.int .i64 0, .int .u32 0, .int .u16 0, .int .u32 0] 25 (0, 0))) ∧ Aside0 (wc.heap[gb157]? = some (.cells #[.int .i64 0, .int .u32 0, .int .u16 0, .int .u32 0] 25 (0, 0))) ∧ Aside0 (Below w.heap.size w wc))
          case first =>
            have H := HC29.out
            clear HC29
            by_cases c30 : 0 < (a0.size : Int)
            · rw [if_pos c30] at H
              have c30b0 : decide (0 < (a0.size : Int)) = true := decide_eq_true c30
              have c30b1 : decide (0 < a0.size) = true := decide_eq_true (by omega)
              clear c30
              (first | rw [c30b0] | (simp only [i64_w, i32_w]; rw [c30b0]) | skip)
              by_cases c32 : (bt a0 0) = 105
              · rw [if_pos c32] at H
                have c32b0 : ((bt a0 0) == 105) = true := beq_iff_eq.mpr c32
                have c32b1 : ((bt a0 0) != 105) = false := bne_eq_false_iff_eq.mpr c32
                clear c32
                have H' := Aside0.mk H
                clear H
                have p31 : 0 ≤ (0 : Int) := (by omega)
                have q31 : 0 < a0.size := (by have : (0 : Int) < (a0.size : Int) := of_decide_eq_true (by first | (with_reducible assumption) | assumption); omega)
                have hx31 : ∀ h : 0 < a0.size, ((a0[0]'h).toNat : Int) = bt a0 0 := bt_at a0 0
                clear p31
                have qi31 : (0 < (a0.size : Int)) = True := eq_true (of_decide_eq_true (by first | (with_reducible assumption) | assumption))
                replace q31 := eq_true q31
                go_wp2
                go_meet
                case rel => exact ⟨_, (((a0.size : Int) == 7)), (by first | rfl | (simp; done) | (simp [*]; done)), H', ⟨by have := HJ7.out; first | omega | exact Nat.le_refl _⟩, ⟨by (with_reducible repeat (first | refine blk_drewN ?_ _ | refine blk_drew ?_ | refine blk_alloc ?_ _)); exact BK156.out⟩, ⟨by (with_reducible repeat (first | refine blk_drewN ?_ _ | refine blk_drew ?_ | refine blk_alloc ?_ _)); exact BK157.out⟩, ⟨by repeat (first | (with_reducible first | exact HB.out | apply below_alloc | apply pw_below_drewN | apply below_drew1 | refine below_set ?_ GE156.out | refine below_set ?_ GE157.out) | exact HB.out)⟩⟩
              · rw [if_neg c32] at H
                have c32b0 : ((bt a0 0) == 105) = false := beq_eq_false_iff_ne.mpr c32
                have c32b1 : ((bt a0 0) != 105) = true := bne_iff_ne.mpr c32
                have H' := Aside0.mk H
                clear H
                have p31 : 0 ≤ (0 : Int) := (by omega)
                have q31 : 0 < a0.size := (by have : (0 : Int) < (a0.size : Int) := of_decide_eq_true (by first | (with_reducible assumption) | assumption); omega)
                have hx31 : ∀ h : 0 < a0.size, ((a0[0]'h).toNat : Int) = bt a0 0 := bt_at a0 0
                clear p31
                have qi31 : (0 < (a0.size : Int)) = True := eq_true (of_decide_eq_true (by first | (with_reducible assumption) | assumption))
                replace q31 := eq_true q31
                go_wp2
                go_meet
                case rel => exact ⟨_, (false), (by first | rfl | (simp; done) | (simp [*]; done)), H', ⟨by have := HJ7.out; first | omega | exact Nat.le_refl _⟩, ⟨by (with_reducible repeat (first | refine blk_drewN ?_ _ | refine blk_drew ?_ | refine blk_alloc ?_ _)); exact BK156.out⟩, ⟨by (with_reducible repeat (first | refine blk_drewN ?_ _ | refine blk_drew ?_ | refine blk_alloc ?_ _)); exact BK157.out⟩, ⟨by repeat (first | (with_reducible first | exact HB.out | apply below_alloc | apply pw_below_drewN | apply below_drew1 | refine below_set ?_ GE156.out | refine below_set ?_ GE157.out) | exact HB.out)⟩⟩
            · rw [if_neg c30] at H
              exact absurd H (by simp)
          case rest =>
            clear HC29
            try clear c1
            try clear p1
            try clear q1
            try clear hx1
            try clear qi1
            try clear c2
            try clear c2b0
            try clear c2b1
            try clear p2
            try clear c3
            try clear p3
            try clear q3
            try clear hx3
            try clear qi3
            try clear c5
            try clear c11
            try clear c11b0
            try clear c11b1
            try clear c12
            try clear p12
            try clear q12
            try clear hx12
            try clear qi12
            try clear c13
            try clear c13b0
            try clear c13b1
            try clear c14
            try clear c15
            try clear c15b0
            try clear c15b1
            try clear c16
            try clear c16b0
            try clear c16b1
            try clear c19
            try clear c20
            try clear c22
            try clear c25
            try clear c30
            try clear c30b0
            try clear c30b1
            try clear p31
            try clear q31
            try clear hx31
            try clear qi31
            try clear c32
            try clear c32b0
            try clear c32b1
            try clear hcz21_0
            try clear hcz21_1
            try clear hcz21_2
            try clear hcz21_3
            try clear hcz23_0
            try clear hcz23_1
            try clear hcz23_2
            try clear hcz23_3
            try clear hcz24_0
            try clear hcz24_1
            try clear hcz24_2
            try clear hcz24_3
            try clear hcz26_0
            try clear hcz26_1
            try clear hcz26_2
            try clear hcz26_3
            try clear hcz28_0
            try clear hcz28_1
            try clear hcz28_2
            try clear hcz28_3
            try clear hcz6_0
            try clear hcz6_1
            try clear hcz6_2
            try clear hcz6_3
            try clear hcz7_0
            try clear hcz7_1
            try clear hcz7_2
            try clear hcz7_3
            try clear hfz21_0
            try clear hfz21_1
            try clear hfz21_2
            try clear hfz21_3
            try clear hfz23_0
            try clear hfz23_1
            try clear hfz23_2
            try clear hfz23_3
            try clear hfz24_0
            try clear hfz24_1
            try clear hfz24_2
            try clear hfz24_3
            try clear hfz26_0
            try clear hfz26_1
            try clear hfz26_2
            try clear hfz26_3
            try clear hfz28_0
            try clear hfz28_1
            try clear hfz28_2
            try clear hfz28_3
            try clear hfz6_0
            try clear hfz6_1
            try clear hfz6_2
            try clear hfz6_3
            try clear hfz7_0
            try clear hfz7_1
            try clear hfz7_2
            try clear hfz7_3
            try clear p1
            try clear p12
            try clear p2
            try clear p31
            try clear q1
            try clear q12
            try clear q31
            obtain ⟨kq, x25_28, rfl, HA, HJ28, BK156, BK157, HB⟩ := hcut
            cases kq with
            | zero => exact absurd HA.out (by simp [bazaarref10_Parse.j1])
            | succ kj28 =>
              have H := HA.out
              clear HA
              simp only [bazaarref10_Parse.j1] at H
              by_cases c33 : x25_28 = true
              · subst c33
                have H1 : (if 1 ≤ 5 then (if 5 ≤ (a0.size : Int) then ((bazaarref03_Get.f kj28 (a0.extract 1 5)).bind fun t160 => (if 5 ≤ 7 then (if 7 ≤ (a0.size : Int) then ((bazaarref03_Get.f kj28 (a0.extract 5 7)).bind fun t161 => ((bazaarref10_Right.f kj28 2 ((t160) % 4294967296) (IntKind.u16.wrap (t161)) 0).bind fun t162 => (if t162 = true then (some (2, (t160) % 4294967296, IntKind.u16.wrap (t161), 0, 0)) else (some (0, 0, 0, 0, 100))))) else (none)) else (none))) else (none)) else (none)) = some (r1, r2, r3, r4, r5) := by rw [if_pos rfl] at H; exact H
                clear H
                have H := H1
                clear H1
                by_cases c34 : 1 ≤ 5
                · rw [if_pos c34] at H
                  have c34b0 := eq_true c34
                  have c34b1 : decide (1 ≤ 5) = true := decide_eq_true c34
                  clear c34
                  by_cases c35 : 5 ≤ (a0.size : Int)
                  · rw [if_pos c35] at H
                    have c35b0 := eq_true c35
                    have c35b1 : decide (5 ≤ (a0.size : Int)) = true := decide_eq_true c35
                    clear c35
                    replace H := Option.bind_eq_some_iff.mp H
                    obtain ⟨t160, A360, H⟩ := H
                    replace H : (if 5 ≤ 7 then (if 7 ≤ (a0.size : Int) then ((bazaarref03_Get.f kj28 (a0.extract 5 7)).bind fun t161 => ((bazaarref10_Right.f kj28 2 ((t160) % 4294967296) (IntKind.u16.wrap (t161)) 0).bind fun t162 => (if t162 = true then (some (2, (t160) % 4294967296, IntKind.u16.wrap (t161), 0, 0)) else (some (0, 0, 0, 0, 100))))) else (none)) else (none)) = some (r1, r2, r3, r4, r5) := H
                    have A36 := Aside0.mk A360
                    clear A360
                    by_cases c37 : 5 ≤ 7
                    · rw [if_pos c37] at H
                      have c37b0 := eq_true c37
                      have c37b1 : decide (5 ≤ 7) = true := decide_eq_true c37
                      clear c37
                      by_cases c38 : 7 ≤ (a0.size : Int)
                      · rw [if_pos c38] at H
                        have c38b0 := eq_true c38
                        have c38b1 : decide (7 ≤ (a0.size : Int)) = true := decide_eq_true c38
                        clear c38
                        replace H := Option.bind_eq_some_iff.mp H
                        obtain ⟨t161, A390, H⟩ := H
                        replace H : ((bazaarref10_Right.f kj28 2 ((t160) % 4294967296) (IntKind.u16.wrap (t161)) 0).bind fun t162 => (if t162 = true then (some (2, (t160) % 4294967296, IntKind.u16.wrap (t161), 0, 0)) else (some (0, 0, 0, 0, 100)))) = some (r1, r2, r3, r4, r5) := H
                        have A39 := Aside0.mk A390
                        clear A390
                        replace H := Option.bind_eq_some_iff.mp H
                        obtain ⟨t162, A400, H⟩ := H
                        replace H : (if t162 = true then (some (2, (t160) % 4294967296, IntKind.u16.wrap (t161), 0, 0)) else (some (0, 0, 0, 0, 100))) = some (r1, r2, r3, r4, r5) := H
                        have A40 := Aside0.mk A400
                        clear A400
                        by_cases c41 : t162 = true
                        · subst c41
                          have H1 : (some (2, (t160) % 4294967296, IntKind.u16.wrap (t161), 0, 0)) = some (r1, r2, r3, r4, r5) := by rw [if_pos rfl] at H; exact H
                          clear H
                          have H := H1
                          clear H1
                          simp only [Option.some.injEq, Prod.mk.injEq] at H
                          obtain ⟨rfl, rfl, rfl, rfl, rfl⟩ := H
                          try go_wp2
                          have n0_ := Aside0.mk (blk_drew BK156.out)
                          have n1_ := Aside0.mk (blk_drew BK157.out)
                          have n2_ := Aside0.mk (below_drew1 HB.out)
                          clear BK156
                          clear BK157
                          clear HB
                          have BK156 := n0_
                          have BK157 := n1_
                          have HB := n2_
                          clear n0_ n1_ n2_
                          refine start_ (n := 10) (S := fun w' => True) (ds := []) #[false, false, false, false, false, false, false, false, false, false] (by kernel_rfl) rfl rfl trivial (fun hHeld => ?_); refine with_tabW bazaarref10_Parse.tab8 bazaarref10_Parse.bits8 (fun HT_ HW_ => ?_)
                          generalize wc.drew = w42 at BK156 BK157 HB hHeld ⊢
                          refine pure_ (i := 0) (N := some 33) (v := ?_) (a' := ?_) #[true, false, false, false, false, false, false, false, false, false] rfl rfl (any_of HT_.out (by kernel_rfl)) (fun _ _ _ h => h) (Or.inl ⟨by rfl, ?_⟩) ?_ ?_
                          rotate_left
                          · intro w'
                            go_simp
                            with_reducible rfl
                          rotate_left
                          · simp only [Act.put, List.setIfInBounds_toArray, List.set_cons_zero, List.set_cons_succ, i64_w, i32_w]
                            rfl
                          refine pure_ (i := 1) (N := some 34) (v := ?_) (a' := ?_) #[true, true, false, false, false, false, false, false, false, false] rfl rfl (any_of HT_.out (by kernel_rfl)) (fun _ _ _ h => h) (Or.inl ⟨by rfl, ?_⟩) ?_ ?_
                          rotate_left
                          · intro w'
                            go_simp
                            with_reducible rfl
                          rotate_left
                          · simp only [Act.put, List.setIfInBounds_toArray, List.set_cons_zero, List.set_cons_succ, i64_w, i32_w]
                            rfl
                          refine pure_ (i := 4) (N := some 37) (v := ?_) (a' := ?_) #[true, true, false, false, true, false, false, false, false, false] rfl rfl (any_of HT_.out (by kernel_rfl)) (fun _ _ _ h => h) (Or.inl ⟨by rfl, ?_⟩) ?_ ?_
                          rotate_left
                          · intro w'
                            go_simp
                            with_reducible rfl
                          rotate_left
                          · simp only [Act.put, List.setIfInBounds_toArray, List.set_cons_zero, List.set_cons_succ, i64_w, i32_w]
                            rfl
                          refine pure_ (i := 5) (N := some 38) (v := ?_) (a' := ?_) #[true, true, false, false, true, true, false, false, false, false] rfl rfl (any_of HT_.out (by kernel_rfl)) (fun _ _ _ h => h) (Or.inl ⟨by rfl, ?_⟩) ?_ ?_
                          rotate_left
                          · intro w'
                            go_simp
                            with_reducible rfl
                          rotate_left
                          · simp only [Act.put, List.setIfInBounds_toArray, List.set_cons_zero, List.set_cons_succ, i64_w, i32_w]
                            rfl
                          refine one_ (i := 2) (N := some 35) #[true, true, true, false, true, true, false, false, false, false] rfl rfl (one_of HT_.out (by kernel_rfl)) (by decide) (fun K hK => ?_)
                          refine goes_ Try.func22 (by kernel_rfl) rfl #[.string (a0.extract 1 5)] (by rfl) rfl rfl (by (try simp only [List.map_toArray, List.map_cons, List.map_nil]); first | done | rfl | (simp only [List.length_drop, List.length_take]; rfl)) ?_
                          with_reducible refine (bazaarref03_Get.calls kj28 (a0.extract 1 5) t160 _ A36.out).mono ?_
                          rintro e w' ⟨rfl, ⟨nd, rfl⟩⟩
                          refine ⟨_, rfl, ?_⟩
                          refine hK.out _ _ trivial (fun hHeld => ?_)
                          clear hK K
                          refine norm_ (a' := ?_) ?_ ?_
                          rotate_left
                          · show Act.put _ (some 35) _ = _
                            simp only [Act.put, List.setIfInBounds_toArray, List.set_cons_zero, List.set_cons_succ, i64_w, i32_w]
                            rfl
                          refine pure_ (i := 3) (N := some 36) (v := ?_) (a' := ?_) #[true, true, true, true, true, true, false, false, false, false] rfl rfl (any_of HT_.out (by kernel_rfl)) (fun _ _ _ h => h) (Or.inl ⟨by rfl, ?_⟩) ?_ ?_
                          rotate_left
                          · intro w'
                            go_simp
                            with_reducible rfl
                          rotate_left
                          · simp only [Act.put, List.setIfInBounds_toArray, List.set_cons_zero, List.set_cons_succ, i64_w, i32_w]
                            rfl
                          refine one_ (i := 6) (N := some 39) #[true, true, true, true, true, true, true, false, false, false] rfl rfl (one_of HT_.out (by kernel_rfl)) (by decide) (fun K hK => ?_)
                          refine goes_ Try.func22 (by kernel_rfl) rfl #[.string (a0.extract 5 7)] (by rfl) rfl rfl (by (try simp only [List.map_toArray, List.map_cons, List.map_nil]); first | done | rfl | (simp only [List.length_drop, List.length_take]; rfl)) ?_
                          with_reducible refine (bazaarref03_Get.calls kj28 (a0.extract 5 7) t161 _ A39.out).mono ?_
                          rintro e w' ⟨rfl, ⟨nd, rfl⟩⟩
                          refine ⟨_, rfl, ?_⟩
                          refine hK.out _ _ trivial (fun hHeld => ?_)
                          clear hK K
                          refine norm_ (a' := ?_) ?_ ?_
                          rotate_left
                          · show Act.put _ (some 39) _ = _
                            simp only [Act.put, List.setIfInBounds_toArray, List.set_cons_zero, List.set_cons_succ, i64_w, i32_w]
                            rfl
                          refine pure_ (i := 7) (N := some 40) (v := ?_) (a' := ?_) #[true, true, true, true, true, true, true, true, false, false] rfl rfl (any_of HT_.out (by kernel_rfl)) (fun _ _ _ h => h) (Or.inl ⟨by rfl, ?_⟩) ?_ ?_
                          rotate_left
                          · intro w'
                            go_simp
                            with_reducible rfl
                          rotate_left
                          · simp only [Act.put, List.setIfInBounds_toArray, List.set_cons_zero, List.set_cons_succ, i64_w, i32_w]
                            rfl
                          refine pure_ (i := 8) (N := some 41) (v := ?_) (a' := ?_) #[true, true, true, true, true, true, true, true, true, false] rfl rfl (any_of HT_.out (by kernel_rfl)) (fun _ _ _ h => h) (Or.inl ⟨by rfl, ?_⟩) ?_ ?_
                          rotate_left
                          · intro w'
                            go_simp
                            with_reducible rfl
                          rotate_left
                          · simp only [Act.put, List.setIfInBounds_toArray, List.set_cons_zero, List.set_cons_succ, i64_w, i32_w]
                            rfl
                          refine one_ (i := 9) (N := none) #[true, true, true, true, true, true, true, true, true, true] rfl rfl (one_of HT_.out (by kernel_rfl)) (by decide) (fun K hK => ?_)
                          have hs43 : w42.cell? ⟨gb157, 0, none⟩ = some (.int .i64 0) := (blk_cell BK157.out 0).trans rfl
                          have hfs43 := blk_frozen BK157.out 0
                          have hns43_0 := NB156_157.out
                          have hms43_0 := NB157_156.out
                          have hs44 : w42.cell? ⟨gb157, 1, none⟩ = some (.int .u32 0) := (blk_cell BK157.out 1).trans rfl
                          have hfs44 := blk_frozen BK157.out 1
                          have hns44_0 := NB156_157.out
                          have hms44_0 := NB157_156.out
                          have hs45 : w42.cell? ⟨gb157, 2, none⟩ = some (.int .u16 0) := (blk_cell BK157.out 2).trans rfl
                          have hfs45 := blk_frozen BK157.out 2
                          have hns45_0 := NB156_157.out
                          have hms45_0 := NB157_156.out
                          have hs46 : w42.cell? ⟨gb157, 3, none⟩ = some (.int .u32 0) := (blk_cell BK157.out 3).trans rfl
                          have hfs46 := blk_frozen BK157.out 3
                          have hns46_0 := NB156_157.out
                          have hms46_0 := NB157_156.out
                          refine skip_ (w1 := ?_) (by rfl) rfl ?_ ?_
                          rotate_left
                          · go_simp
                            rfl
                          refine hK.out _ _ trivial (fun hHeld => ?_)
                          clear hK K
                          refine done_ (done_of HT_.out (by kernel_rfl)) ?_
                          have hnb47 := NB157_156.out
                          have hnc47 := NB156_157.out
                          have hcz48_0 : w42.cell? ⟨gb157, 0, none⟩ = some (.int .i64 0) := (blk_cell BK157.out 0).trans rfl
                          have hcz48_1 : w42.cell? ⟨gb157, 1, none⟩ = some (.int .u32 0) := (blk_cell BK157.out 1).trans rfl
                          have hcz48_2 : w42.cell? ⟨gb157, 2, none⟩ = some (.int .u16 0) := (blk_cell BK157.out 2).trans rfl
                          have hcz48_3 : w42.cell? ⟨gb157, 3, none⟩ = some (.int .u32 0) := (blk_cell BK157.out 3).trans rfl
                          have hfz48_0 := blk_frozen BK157.out 0
                          have hfz48_1 := blk_frozen BK157.out 1
                          have hfz48_2 := blk_frozen BK157.out 2
                          have hfz48_3 := blk_frozen BK157.out 3
                          try go_wp2_with (first | ((with_reducible refine gate_callee (f := 14) rfl ?_); refine goesL_ (some 101) rfl rfl Try.func14 (by kernel_rfl) rfl #[.agg #[.int .i64 2, .int .u32 ((t160) % 4294967296), .int .u16 (IntKind.u16.wrap (t161)), .int .u32 0]] rfl (by (try simp only [List.map_toArray, List.map_cons, List.map_nil]); first | done | rfl | (simp only [List.length_drop, List.length_take]; rfl)) ?_; (with_reducible refine (bazaarref10_Right.calls kj28 2 ((t160) % 4294967296) (IntKind.u16.wrap (t161)) 0 true _ A40.out).mono ?_); rintro e w49 ⟨rfl, hb⟩; refine ⟨_, rfl, ?_⟩; have n0_ := Aside0.mk (blk_below (g := gb156) (o := .cells #[.int .i64 0, .int .u32 0, .int .u16 0, .int .u32 0] 25 (0, 0)) (by (with_reducible repeat (first | refine blk_drewN ?_ _ | refine blk_drew ?_ | refine blk_alloc ?_ _)); refine blk_far ?_ NB156_157.out _; (with_reducible repeat (first | refine blk_drewN ?_ _ | refine blk_drew ?_ | refine blk_alloc ?_ _)); refine blk_far ?_ NB156_157.out _; (with_reducible repeat (first | refine blk_drewN ?_ _ | refine blk_drew ?_ | refine blk_alloc ?_ _)); refine blk_far ?_ NB156_157.out _; (with_reducible repeat (first | refine blk_drewN ?_ _ | refine blk_drew ?_ | refine blk_alloc ?_ _)); refine blk_far ?_ NB156_157.out _; (with_reducible repeat (first | refine blk_drewN ?_ _ | refine blk_drew ?_ | refine blk_alloc ?_ _)); exact BK156.out) hb); have n1_ := Aside0.mk (blk_below (g := gb157) (o := .cells #[.int .i64 2, .int .u32 ((t160) % 4294967296), .int .u16 (IntKind.u16.wrap (t161)), .int .u32 0] 25 (0, 0)) (by (with_reducible repeat (first | refine blk_drewN ?_ _ | refine blk_drew ?_ | refine blk_alloc ?_ _)); refine blk_put (cs := #[.int .i64 2, .int .u32 ((t160) % 4294967296), .int .u16 (IntKind.u16.wrap (t161)), .int .u32 0]) ?_ 3 _ rfl; (with_reducible repeat (first | refine blk_drewN ?_ _ | refine blk_drew ?_ | refine blk_alloc ?_ _)); refine blk_put (cs := #[.int .i64 2, .int .u32 ((t160) % 4294967296), .int .u16 0, .int .u32 0]) ?_ 2 _ rfl; (with_reducible repeat (first | refine blk_drewN ?_ _ | refine blk_drew ?_ | refine blk_alloc ?_ _)); refine blk_put (cs := #[.int .i64 2, .int .u32 0, .int .u16 0, .int .u32 0]) ?_ 1 _ rfl; (with_reducible repeat (first | refine blk_drewN ?_ _ | refine blk_drew ?_ | refine blk_alloc ?_ _)); refine blk_put (cs := #[.int .i64 0, .int .u32 0, .int .u16 0, .int .u32 0]) ?_ 0 _ rfl; (with_reducible repeat (first | refine blk_drewN ?_ _ | refine blk_drew ?_ | refine blk_alloc ?_ _)); exact BK157.out) hb); have n2_ := Aside0.mk (below_step (by repeat (first | (with_reducible first | exact HB.out | apply below_alloc | apply pw_below_drewN | apply below_drew1 | refine below_set ?_ GE156.out | refine below_set ?_ GE157.out) | exact HB.out)) hb); clear BK156; clear BK157; clear HB; have BK156 := n0_; have BK157 := n1_; have HB := n2_; clear n0_ n1_ n2_; (try clear hb); (try clear hb2); (try clear hk); (try clear hi); have hcz50_0 : w49.cell? ⟨gb157, 0, none⟩ = some (.int .i64 2) := (blk_cell BK157.out 0).trans rfl; have hcz50_1 : w49.cell? ⟨gb157, 1, none⟩ = some (.int .u32 ((t160) % 4294967296)) := (blk_cell BK157.out 1).trans rfl; have hcz50_2 : w49.cell? ⟨gb157, 2, none⟩ = some (.int .u16 (IntKind.u16.wrap (t161))) := (blk_cell BK157.out 2).trans rfl; have hcz50_3 : w49.cell? ⟨gb157, 3, none⟩ = some (.int .u32 0) := (blk_cell BK157.out 3).trans rfl; have hfz50_0 := blk_frozen BK157.out 0; have hfz50_1 := blk_frozen BK157.out 1; have hfz50_2 := blk_frozen BK157.out 2; have hfz50_3 := blk_frozen BK157.out 3; have hcz51_0 : w49.cell? ⟨gb156, 0, none⟩ = some (.int .i64 0) := (blk_cell BK156.out 0).trans rfl; have hcz51_1 : w49.cell? ⟨gb156, 1, none⟩ = some (.int .u32 0) := (blk_cell BK156.out 1).trans rfl; have hcz51_2 : w49.cell? ⟨gb156, 2, none⟩ = some (.int .u16 0) := (blk_cell BK156.out 2).trans rfl; have hcz51_3 : w49.cell? ⟨gb156, 3, none⟩ = some (.int .u32 0) := (blk_cell BK156.out 3).trans rfl; have hfz51_0 := blk_frozen BK156.out 0; have hfz51_1 := blk_frozen BK156.out 1; have hfz51_2 := blk_frozen BK156.out 2; have hfz51_3 := blk_frozen BK156.out 3))
                          refine bodyPost_ret (results_ct rfl _ _ gb156 25 #[.int .i64 2, .int .u32 ((t160) % 4294967296), .int .u16 (IntKind.u16.wrap (t161)), .int .u32 0] (0, 0) _ rfl (by (with_reducible repeat (first | refine blk_drewN ?_ _ | refine blk_drew ?_ | refine blk_alloc ?_ _)); refine blk_put (cs := #[.int .i64 2, .int .u32 ((t160) % 4294967296), .int .u16 (IntKind.u16.wrap (t161)), .int .u32 0]) ?_ 3 _ rfl; (with_reducible repeat (first | refine blk_drewN ?_ _ | refine blk_drew ?_ | refine blk_alloc ?_ _)); refine blk_put (cs := #[.int .i64 2, .int .u32 ((t160) % 4294967296), .int .u16 0, .int .u32 0]) ?_ 2 _ rfl; (with_reducible repeat (first | refine blk_drewN ?_ _ | refine blk_drew ?_ | refine blk_alloc ?_ _)); refine blk_put (cs := #[.int .i64 2, .int .u32 0, .int .u16 0, .int .u32 0]) ?_ 1 _ rfl; (with_reducible repeat (first | refine blk_drewN ?_ _ | refine blk_drew ?_ | refine blk_alloc ?_ _)); refine blk_put (cs := #[.int .i64 0, .int .u32 0, .int .u16 0, .int .u32 0]) ?_ 0 _ rfl; (with_reducible repeat (first | refine blk_drewN ?_ _ | refine blk_drew ?_ | refine blk_alloc ?_ _)); exact BK156.out) Try.underlying25 rfl (by kernel_rfl)) rfl ?_
                          exact ⟨by first | rfl | (simp [errW_none, errW_some] <;> rfl) | (simp [*, errW_none, errW_some] <;> rfl), by repeat (first | (with_reducible first | exact HB.out | apply below_alloc | apply pw_below_drewN | apply below_drew1 | refine below_set ?_ GE156.out | refine below_set ?_ GE157.out) | exact HB.out)⟩
                        · replace c41 := Bool.eq_false_iff.mpr c41
                          subst c41
                          have H1 : (some (0, 0, 0, 0, 100)) = some (r1, r2, r3, r4, r5) := by rw [if_neg (show ¬ (false = true) by decide)] at H; exact H
                          clear H
                          have H := H1
                          clear H1
                          simp only [Option.some.injEq, Prod.mk.injEq] at H
                          obtain ⟨rfl, rfl, rfl, rfl, rfl⟩ := H
                          try go_wp2
                          have n0_ := Aside0.mk (blk_drew BK156.out)
                          have n1_ := Aside0.mk (blk_drew BK157.out)
                          have n2_ := Aside0.mk (below_drew1 HB.out)
                          clear BK156
                          clear BK157
                          clear HB
                          have BK156 := n0_
                          have BK157 := n1_
                          have HB := n2_
                          clear n0_ n1_ n2_
                          refine start_ (n := 10) (S := fun w' => True) (ds := []) #[false, false, false, false, false, false, false, false, false, false] (by kernel_rfl) rfl rfl trivial (fun hHeld => ?_); refine with_tabW bazaarref10_Parse.tab8 bazaarref10_Parse.bits8 (fun HT_ HW_ => ?_)
                          generalize wc.drew = w52 at BK156 BK157 HB hHeld ⊢
                          refine pure_ (i := 0) (N := some 33) (v := ?_) (a' := ?_) #[true, false, false, false, false, false, false, false, false, false] rfl rfl (any_of HT_.out (by kernel_rfl)) (fun _ _ _ h => h) (Or.inl ⟨by rfl, ?_⟩) ?_ ?_
                          rotate_left
                          · intro w'
                            go_simp
                            with_reducible rfl
                          rotate_left
                          · simp only [Act.put, List.setIfInBounds_toArray, List.set_cons_zero, List.set_cons_succ, i64_w, i32_w]
                            rfl
                          refine pure_ (i := 1) (N := some 34) (v := ?_) (a' := ?_) #[true, true, false, false, false, false, false, false, false, false] rfl rfl (any_of HT_.out (by kernel_rfl)) (fun _ _ _ h => h) (Or.inl ⟨by rfl, ?_⟩) ?_ ?_
                          rotate_left
                          · intro w'
                            go_simp
                            with_reducible rfl
                          rotate_left
                          · simp only [Act.put, List.setIfInBounds_toArray, List.set_cons_zero, List.set_cons_succ, i64_w, i32_w]
                            rfl
                          refine pure_ (i := 4) (N := some 37) (v := ?_) (a' := ?_) #[true, true, false, false, true, false, false, false, false, false] rfl rfl (any_of HT_.out (by kernel_rfl)) (fun _ _ _ h => h) (Or.inl ⟨by rfl, ?_⟩) ?_ ?_
                          rotate_left
                          · intro w'
                            go_simp
                            with_reducible rfl
                          rotate_left
                          · simp only [Act.put, List.setIfInBounds_toArray, List.set_cons_zero, List.set_cons_succ, i64_w, i32_w]
                            rfl
                          refine pure_ (i := 5) (N := some 38) (v := ?_) (a' := ?_) #[true, true, false, false, true, true, false, false, false, false] rfl rfl (any_of HT_.out (by kernel_rfl)) (fun _ _ _ h => h) (Or.inl ⟨by rfl, ?_⟩) ?_ ?_
                          rotate_left
                          · intro w'
                            go_simp
                            with_reducible rfl
                          rotate_left
                          · simp only [Act.put, List.setIfInBounds_toArray, List.set_cons_zero, List.set_cons_succ, i64_w, i32_w]
                            rfl
                          refine one_ (i := 2) (N := some 35) #[true, true, true, false, true, true, false, false, false, false] rfl rfl (one_of HT_.out (by kernel_rfl)) (by decide) (fun K hK => ?_)
                          refine goes_ Try.func22 (by kernel_rfl) rfl #[.string (a0.extract 1 5)] (by rfl) rfl rfl (by (try simp only [List.map_toArray, List.map_cons, List.map_nil]); first | done | rfl | (simp only [List.length_drop, List.length_take]; rfl)) ?_
                          with_reducible refine (bazaarref03_Get.calls kj28 (a0.extract 1 5) t160 _ A36.out).mono ?_
                          rintro e w' ⟨rfl, ⟨nd, rfl⟩⟩
                          refine ⟨_, rfl, ?_⟩
                          refine hK.out _ _ trivial (fun hHeld => ?_)
                          clear hK K
                          refine norm_ (a' := ?_) ?_ ?_
                          rotate_left
                          · show Act.put _ (some 35) _ = _
                            simp only [Act.put, List.setIfInBounds_toArray, List.set_cons_zero, List.set_cons_succ, i64_w, i32_w]
                            rfl
                          refine pure_ (i := 3) (N := some 36) (v := ?_) (a' := ?_) #[true, true, true, true, true, true, false, false, false, false] rfl rfl (any_of HT_.out (by kernel_rfl)) (fun _ _ _ h => h) (Or.inl ⟨by rfl, ?_⟩) ?_ ?_
                          rotate_left
                          · intro w'
                            go_simp
                            with_reducible rfl
                          rotate_left
                          · simp only [Act.put, List.setIfInBounds_toArray, List.set_cons_zero, List.set_cons_succ, i64_w, i32_w]
                            rfl
                          refine one_ (i := 6) (N := some 39) #[true, true, true, true, true, true, true, false, false, false] rfl rfl (one_of HT_.out (by kernel_rfl)) (by decide) (fun K hK => ?_)
                          refine goes_ Try.func22 (by kernel_rfl) rfl #[.string (a0.extract 5 7)] (by rfl) rfl rfl (by (try simp only [List.map_toArray, List.map_cons, List.map_nil]); first | done | rfl | (simp only [List.length_drop, List.length_take]; rfl)) ?_
                          with_reducible refine (bazaarref03_Get.calls kj28 (a0.extract 5 7) t161 _ A39.out).mono ?_
                          rintro e w' ⟨rfl, ⟨nd, rfl⟩⟩
                          refine ⟨_, rfl, ?_⟩
                          refine hK.out _ _ trivial (fun hHeld => ?_)
                          clear hK K
                          refine norm_ (a' := ?_) ?_ ?_
                          rotate_left
                          · show Act.put _ (some 39) _ = _
                            simp only [Act.put, List.setIfInBounds_toArray, List.set_cons_zero, List.set_cons_succ, i64_w, i32_w]
                            rfl
                          refine pure_ (i := 7) (N := some 40) (v := ?_) (a' := ?_) #[true, true, true, true, true, true, true, true, false, false] rfl rfl (any_of HT_.out (by kernel_rfl)) (fun _ _ _ h => h) (Or.inl ⟨by rfl, ?_⟩) ?_ ?_
                          rotate_left
                          · intro w'
                            go_simp
                            with_reducible rfl
                          rotate_left
                          · simp only [Act.put, List.setIfInBounds_toArray, List.set_cons_zero, List.set_cons_succ, i64_w, i32_w]
                            rfl
                          refine pure_ (i := 8) (N := some 41) (v := ?_) (a' := ?_) #[true, true, true, true, true, true, true, true, true, false] rfl rfl (any_of HT_.out (by kernel_rfl)) (fun _ _ _ h => h) (Or.inl ⟨by rfl, ?_⟩) ?_ ?_
                          rotate_left
                          · intro w'
                            go_simp
                            with_reducible rfl
                          rotate_left
                          · simp only [Act.put, List.setIfInBounds_toArray, List.set_cons_zero, List.set_cons_succ, i64_w, i32_w]
                            rfl
                          refine one_ (i := 9) (N := none) #[true, true, true, true, true, true, true, true, true, true] rfl rfl (one_of HT_.out (by kernel_rfl)) (by decide) (fun K hK => ?_)
                          have hs53 : w52.cell? ⟨gb157, 0, none⟩ = some (.int .i64 0) := (blk_cell BK157.out 0).trans rfl
                          have hfs53 := blk_frozen BK157.out 0
                          have hns53_0 := NB156_157.out
                          have hms53_0 := NB157_156.out
                          have hs54 : w52.cell? ⟨gb157, 1, none⟩ = some (.int .u32 0) := (blk_cell BK157.out 1).trans rfl
                          have hfs54 := blk_frozen BK157.out 1
                          have hns54_0 := NB156_157.out
                          have hms54_0 := NB157_156.out
                          have hs55 : w52.cell? ⟨gb157, 2, none⟩ = some (.int .u16 0) := (blk_cell BK157.out 2).trans rfl
                          have hfs55 := blk_frozen BK157.out 2
                          have hns55_0 := NB156_157.out
                          have hms55_0 := NB157_156.out
                          have hs56 : w52.cell? ⟨gb157, 3, none⟩ = some (.int .u32 0) := (blk_cell BK157.out 3).trans rfl
                          have hfs56 := blk_frozen BK157.out 3
                          have hns56_0 := NB156_157.out
                          have hms56_0 := NB157_156.out
                          refine skip_ (w1 := ?_) (by rfl) rfl ?_ ?_
                          rotate_left
                          · go_simp
                            rfl
                          refine hK.out _ _ trivial (fun hHeld => ?_)
                          clear hK K
                          refine done_ (done_of HT_.out (by kernel_rfl)) ?_
                          have hnb57 := NB157_156.out
                          have hnc57 := NB156_157.out
                          have hcz58_0 : w52.cell? ⟨gb157, 0, none⟩ = some (.int .i64 0) := (blk_cell BK157.out 0).trans rfl
                          have hcz58_1 : w52.cell? ⟨gb157, 1, none⟩ = some (.int .u32 0) := (blk_cell BK157.out 1).trans rfl
                          have hcz58_2 : w52.cell? ⟨gb157, 2, none⟩ = some (.int .u16 0) := (blk_cell BK157.out 2).trans rfl
                          have hcz58_3 : w52.cell? ⟨gb157, 3, none⟩ = some (.int .u32 0) := (blk_cell BK157.out 3).trans rfl
                          have hfz58_0 := blk_frozen BK157.out 0
                          have hfz58_1 := blk_frozen BK157.out 1
                          have hfz58_2 := blk_frozen BK157.out 2
                          have hfz58_3 := blk_frozen BK157.out 3
                          try go_wp2_with (first | ((with_reducible refine gate_callee (f := 14) rfl ?_); refine goesL_ (some 101) rfl rfl Try.func14 (by kernel_rfl) rfl #[.agg #[.int .i64 2, .int .u32 ((t160) % 4294967296), .int .u16 (IntKind.u16.wrap (t161)), .int .u32 0]] rfl (by (try simp only [List.map_toArray, List.map_cons, List.map_nil]); first | done | rfl | (simp only [List.length_drop, List.length_take]; rfl)) ?_; (with_reducible refine (bazaarref10_Right.calls kj28 2 ((t160) % 4294967296) (IntKind.u16.wrap (t161)) 0 false _ A40.out).mono ?_); rintro e w59 ⟨rfl, hb⟩; refine ⟨_, rfl, ?_⟩; have n0_ := Aside0.mk (blk_below (g := gb156) (o := .cells #[.int .i64 0, .int .u32 0, .int .u16 0, .int .u32 0] 25 (0, 0)) (by (with_reducible repeat (first | refine blk_drewN ?_ _ | refine blk_drew ?_ | refine blk_alloc ?_ _)); refine blk_far ?_ NB156_157.out _; (with_reducible repeat (first | refine blk_drewN ?_ _ | refine blk_drew ?_ | refine blk_alloc ?_ _)); refine blk_far ?_ NB156_157.out _; (with_reducible repeat (first | refine blk_drewN ?_ _ | refine blk_drew ?_ | refine blk_alloc ?_ _)); refine blk_far ?_ NB156_157.out _; (with_reducible repeat (first | refine blk_drewN ?_ _ | refine blk_drew ?_ | refine blk_alloc ?_ _)); refine blk_far ?_ NB156_157.out _; (with_reducible repeat (first | refine blk_drewN ?_ _ | refine blk_drew ?_ | refine blk_alloc ?_ _)); exact BK156.out) hb); have n1_ := Aside0.mk (blk_below (g := gb157) (o := .cells #[.int .i64 2, .int .u32 ((t160) % 4294967296), .int .u16 (IntKind.u16.wrap (t161)), .int .u32 0] 25 (0, 0)) (by (with_reducible repeat (first | refine blk_drewN ?_ _ | refine blk_drew ?_ | refine blk_alloc ?_ _)); refine blk_put (cs := #[.int .i64 2, .int .u32 ((t160) % 4294967296), .int .u16 (IntKind.u16.wrap (t161)), .int .u32 0]) ?_ 3 _ rfl; (with_reducible repeat (first | refine blk_drewN ?_ _ | refine blk_drew ?_ | refine blk_alloc ?_ _)); refine blk_put (cs := #[.int .i64 2, .int .u32 ((t160) % 4294967296), .int .u16 0, .int .u32 0]) ?_ 2 _ rfl; (with_reducible repeat (first | refine blk_drewN ?_ _ | refine blk_drew ?_ | refine blk_alloc ?_ _)); refine blk_put (cs := #[.int .i64 2, .int .u32 0, .int .u16 0, .int .u32 0]) ?_ 1 _ rfl; (with_reducible repeat (first | refine blk_drewN ?_ _ | refine blk_drew ?_ | refine blk_alloc ?_ _)); refine blk_put (cs := #[.int .i64 0, .int .u32 0, .int .u16 0, .int .u32 0]) ?_ 0 _ rfl; (with_reducible repeat (first | refine blk_drewN ?_ _ | refine blk_drew ?_ | refine blk_alloc ?_ _)); exact BK157.out) hb); have n2_ := Aside0.mk (below_step (by repeat (first | (with_reducible first | exact HB.out | apply below_alloc | apply pw_below_drewN | apply below_drew1 | refine below_set ?_ GE156.out | refine below_set ?_ GE157.out) | exact HB.out)) hb); clear BK156; clear BK157; clear HB; have BK156 := n0_; have BK157 := n1_; have HB := n2_; clear n0_ n1_ n2_; (try clear hb); (try clear hb2); (try clear hk); (try clear hi); have hcz60_0 : w59.cell? ⟨gb156, 0, none⟩ = some (.int .i64 0) := (blk_cell BK156.out 0).trans rfl; have hcz60_1 : w59.cell? ⟨gb156, 1, none⟩ = some (.int .u32 0) := (blk_cell BK156.out 1).trans rfl; have hcz60_2 : w59.cell? ⟨gb156, 2, none⟩ = some (.int .u16 0) := (blk_cell BK156.out 2).trans rfl; have hcz60_3 : w59.cell? ⟨gb156, 3, none⟩ = some (.int .u32 0) := (blk_cell BK156.out 3).trans rfl; have hfz60_0 := blk_frozen BK156.out 0; have hfz60_1 := blk_frozen BK156.out 1; have hfz60_2 := blk_frozen BK156.out 2; have hfz60_3 := blk_frozen BK156.out 3))
                          refine bodyPost_ret (results_ct rfl _ _ gb156 25 #[.int .i64 0, .int .u32 0, .int .u16 0, .int .u32 0] (0, 0) _ rfl (by (with_reducible repeat (first | refine blk_drewN ?_ _ | refine blk_drew ?_ | refine blk_alloc ?_ _)); refine blk_put (cs := #[.int .i64 0, .int .u32 0, .int .u16 0, .int .u32 0]) ?_ 3 _ rfl; (with_reducible repeat (first | refine blk_drewN ?_ _ | refine blk_drew ?_ | refine blk_alloc ?_ _)); refine blk_put (cs := #[.int .i64 0, .int .u32 0, .int .u16 0, .int .u32 0]) ?_ 2 _ rfl; (with_reducible repeat (first | refine blk_drewN ?_ _ | refine blk_drew ?_ | refine blk_alloc ?_ _)); refine blk_put (cs := #[.int .i64 0, .int .u32 0, .int .u16 0, .int .u32 0]) ?_ 1 _ rfl; (with_reducible repeat (first | refine blk_drewN ?_ _ | refine blk_drew ?_ | refine blk_alloc ?_ _)); refine blk_put (cs := #[.int .i64 0, .int .u32 0, .int .u16 0, .int .u32 0]) ?_ 0 _ rfl; (with_reducible repeat (first | refine blk_drewN ?_ _ | refine blk_drew ?_ | refine blk_alloc ?_ _)); exact BK156.out) Try.underlying25 rfl (by kernel_rfl)) rfl ?_
                          exact ⟨by first | rfl | (simp [errW_none, errW_some] <;> rfl) | (simp [*, errW_none, errW_some] <;> rfl), by repeat (first | (with_reducible first | exact HB.out | apply below_alloc | apply pw_below_drewN | apply below_drew1 | refine below_set ?_ GE156.out | refine below_set ?_ GE157.out) | exact HB.out)⟩
                      · rw [if_neg c38] at H
                        exact absurd H (by simp)
                    · rw [if_neg c37] at H
                      exact absurd H (by simp)
                  · rw [if_neg c35] at H
                    exact absurd H (by simp)
                · rw [if_neg c34] at H
                  exact absurd H (by simp)
              · replace c33 := Bool.eq_false_iff.mpr c33
                subst c33
                have H1 : (if 0 < (a0.size : Int) then (if (bt a0 0) = 109 then (bazaarref10_Parse.j2 kj28 a0 (a0.size : Int) ((a0.size : Int) == 9) 0 0 0 0) else (bazaarref10_Parse.j2 kj28 a0 (a0.size : Int) false 0 0 0 0)) else (none)) = some (r1, r2, r3, r4, r5) := by rw [if_neg (show ¬ (false = true) by decide)] at H; exact H
                clear H
                have H := H1
                clear H1
                have HC61 := Aside0.mk H
                clear H
                go_upto_region 9 with (fail)
                go_cut [42] (fun v42 wc => ∃ (kq : Nat) (x42_60 : Bool), v42 = .bool x42_60 ∧ Aside0 (bazaarref10_Parse.j2 kq a0 (a0.size : Int) x42_60 0 0 0 0 = some (r1, r2, r3, r4, r5)) ∧ Aside0 (kq ≤ kj28) ∧ Aside0 (wc.heap[gb156]? = some (.cells #[.int .i64 0, .int .u32 0, .int .u16 0, .int .u32 0] 25 (0, 0))) ∧ Aside0 (wc.heap[gb157]? = some (.cells #[.int .i64 0, .int .u32 0, .int .u16 0, .int .u32 0] 25 (0, 0))) ∧ Aside0 (Below w.heap.size w wc))
                case first =>
                  have H := HC61.out
                  clear HC61
                  by_cases c62 : 0 < (a0.size : Int)
                  · rw [if_pos c62] at H
                    have c62b0 : decide (0 < (a0.size : Int)) = true := decide_eq_true c62
                    have c62b1 : decide (0 < a0.size) = true := decide_eq_true (by omega)
                    clear c62
                    (first | rw [c62b0] | (simp only [i64_w, i32_w]; rw [c62b0]) | skip)
                    by_cases c64 : (bt a0 0) = 109
                    · rw [if_pos c64] at H
                      have c64b0 : ((bt a0 0) == 109) = true := beq_iff_eq.mpr c64
                      have c64b1 : ((bt a0 0) != 109) = false := bne_eq_false_iff_eq.mpr c64
                      clear c64
                      have H' := Aside0.mk H
                      clear H
                      have p63 : 0 ≤ (0 : Int) := (by omega)
                      have q63 : 0 < a0.size := (by have : (0 : Int) < (a0.size : Int) := of_decide_eq_true (by first | (with_reducible assumption) | assumption); omega)
                      have hx63 : ∀ h : 0 < a0.size, ((a0[0]'h).toNat : Int) = bt a0 0 := bt_at a0 0
                      clear p63
                      have qi63 : (0 < (a0.size : Int)) = True := eq_true (of_decide_eq_true (by first | (with_reducible assumption) | assumption))
                      replace q63 := eq_true q63
                      go_wp2
                      go_meet
                      case rel => exact ⟨_, (((a0.size : Int) == 9)), (by first | rfl | (simp; done) | (simp [*]; done)), H', ⟨by have := HJ7.out; have := HJ28.out; first | omega | exact Nat.le_refl _⟩, ⟨by (with_reducible repeat (first | refine blk_drewN ?_ _ | refine blk_drew ?_ | refine blk_alloc ?_ _)); exact BK156.out⟩, ⟨by (with_reducible repeat (first | refine blk_drewN ?_ _ | refine blk_drew ?_ | refine blk_alloc ?_ _)); exact BK157.out⟩, ⟨by repeat (first | (with_reducible first | exact HB.out | apply below_alloc | apply pw_below_drewN | apply below_drew1 | refine below_set ?_ GE156.out | refine below_set ?_ GE157.out) | exact HB.out)⟩⟩
                    · rw [if_neg c64] at H
                      have c64b0 : ((bt a0 0) == 109) = false := beq_eq_false_iff_ne.mpr c64
                      have c64b1 : ((bt a0 0) != 109) = true := bne_iff_ne.mpr c64
                      have H' := Aside0.mk H
                      clear H
                      have p63 : 0 ≤ (0 : Int) := (by omega)
                      have q63 : 0 < a0.size := (by have : (0 : Int) < (a0.size : Int) := of_decide_eq_true (by first | (with_reducible assumption) | assumption); omega)
                      have hx63 : ∀ h : 0 < a0.size, ((a0[0]'h).toNat : Int) = bt a0 0 := bt_at a0 0
                      clear p63
                      have qi63 : (0 < (a0.size : Int)) = True := eq_true (of_decide_eq_true (by first | (with_reducible assumption) | assumption))
                      replace q63 := eq_true q63
                      go_wp2
                      go_meet
                      case rel => exact ⟨_, (false), (by first | rfl | (simp; done) | (simp [*]; done)), H', ⟨by have := HJ7.out; have := HJ28.out; first | omega | exact Nat.le_refl _⟩, ⟨by (with_reducible repeat (first | refine blk_drewN ?_ _ | refine blk_drew ?_ | refine blk_alloc ?_ _)); exact BK156.out⟩, ⟨by (with_reducible repeat (first | refine blk_drewN ?_ _ | refine blk_drew ?_ | refine blk_alloc ?_ _)); exact BK157.out⟩, ⟨by repeat (first | (with_reducible first | exact HB.out | apply below_alloc | apply pw_below_drewN | apply below_drew1 | refine below_set ?_ GE156.out | refine below_set ?_ GE157.out) | exact HB.out)⟩⟩
                  · rw [if_neg c62] at H
                    exact absurd H (by simp)
                case rest =>
                  clear HC61
                  try clear c1
                  try clear p1
                  try clear q1
                  try clear hx1
                  try clear qi1
                  try clear c2
                  try clear c2b0
                  try clear c2b1
                  try clear p2
                  try clear c3
                  try clear p3
                  try clear q3
                  try clear hx3
                  try clear qi3
                  try clear c4
                  try clear c5
                  try clear c6
                  try clear p6
                  try clear q6
                  try clear hx6
                  try clear qi6
                  try clear c11
                  try clear c11b0
                  try clear c11b1
                  try clear c12
                  try clear p12
                  try clear q12
                  try clear hx12
                  try clear qi12
                  try clear c13
                  try clear c13b0
                  try clear c13b1
                  try clear c14
                  try clear c15
                  try clear c15b0
                  try clear c15b1
                  try clear c16
                  try clear c16b0
                  try clear c16b1
                  try clear c19
                  try clear c20
                  try clear c22
                  try clear c25
                  try clear c30
                  try clear c30b0
                  try clear c30b1
                  try clear p31
                  try clear q31
                  try clear hx31
                  try clear qi31
                  try clear c32
                  try clear c32b0
                  try clear c32b1
                  try clear c33
                  try clear c34
                  try clear c34b0
                  try clear c34b1
                  try clear c35
                  try clear c35b0
                  try clear c35b1
                  try clear c37
                  try clear c37b0
                  try clear c37b1
                  try clear c38
                  try clear c38b0
                  try clear c38b1
                  try clear c41
                  try clear c47
                  try clear c57
                  try clear c62
                  try clear c62b0
                  try clear c62b1
                  try clear p63
                  try clear q63
                  try clear hx63
                  try clear qi63
                  try clear c64
                  try clear c64b0
                  try clear c64b1
                  try clear hcz21_0
                  try clear hcz21_1
                  try clear hcz21_2
                  try clear hcz21_3
                  try clear hcz23_0
                  try clear hcz23_1
                  try clear hcz23_2
                  try clear hcz23_3
                  try clear hcz24_0
                  try clear hcz24_1
                  try clear hcz24_2
                  try clear hcz24_3
                  try clear hcz26_0
                  try clear hcz26_1
                  try clear hcz26_2
                  try clear hcz26_3
                  try clear hcz28_0
                  try clear hcz28_1
                  try clear hcz28_2
                  try clear hcz28_3
                  try clear hcz48_0
                  try clear hcz48_1
                  try clear hcz48_2
                  try clear hcz48_3
                  try clear hcz50_0
                  try clear hcz50_1
                  try clear hcz50_2
                  try clear hcz50_3
                  try clear hcz51_0
                  try clear hcz51_1
                  try clear hcz51_2
                  try clear hcz51_3
                  try clear hcz58_0
                  try clear hcz58_1
                  try clear hcz58_2
                  try clear hcz58_3
                  try clear hcz60_0
                  try clear hcz60_1
                  try clear hcz60_2
                  try clear hcz60_3
                  try clear hcz6_0
                  try clear hcz6_1
                  try clear hcz6_2
                  try clear hcz6_3
                  try clear hcz7_0
                  try clear hcz7_1
                  try clear hcz7_2
                  try clear hcz7_3
                  try clear hfz21_0
                  try clear hfz21_1
                  try clear hfz21_2
                  try clear hfz21_3
                  try clear hfz23_0
                  try clear hfz23_1
                  try clear hfz23_2
                  try clear hfz23_3
                  try clear hfz24_0
                  try clear hfz24_1
                  try clear hfz24_2
                  try clear hfz24_3
                  try clear hfz26_0
                  try clear hfz26_1
                  try clear hfz26_2
                  try clear hfz26_3
                  try clear hfz28_0
                  try clear hfz28_1
                  try clear hfz28_2
                  try clear hfz28_3
                  try clear hfz48_0
                  try clear hfz48_1
                  try clear hfz48_2
                  try clear hfz48_3
                  try clear hfz50_0
                  try clear hfz50_1
                  try clear hfz50_2
                  try clear hfz50_3
                  try clear hfz51_0
                  try clear hfz51_1
                  try clear hfz51_2
                  try clear hfz51_3
                  try clear hfz58_0
                  try clear hfz58_1
                  try clear hfz58_2
                  try clear hfz58_3
                  try clear hfz60_0
                  try clear hfz60_1
                  try clear hfz60_2
                  try clear hfz60_3
                  try clear hfz6_0
                  try clear hfz6_1
                  try clear hfz6_2
                  try clear hfz6_3
                  try clear hfz7_0
                  try clear hfz7_1
                  try clear hfz7_2
                  try clear hfz7_3
                  try clear p1
                  try clear p12
                  try clear p2
                  try clear p3
                  try clear p31
                  try clear p63
                  try clear q1
                  try clear q12
                  try clear q3
                  try clear q31
                  try clear q63
                  obtain ⟨kq, x42_60, rfl, HA, HJ60, BK156, BK157, HB⟩ := hcut
                  cases kq with
                  | zero => exact absurd HA.out (by simp [bazaarref10_Parse.j2])
                  | succ kj60 =>
                    have H := HA.out
                    clear HA
                    simp only [bazaarref10_Parse.j2] at H
                    by_cases c65 : x42_60 = true
                    · subst c65
                      have H1 : (if 1 ≤ 5 then (if 5 ≤ (a0.size : Int) then ((bazaarref03_Get.f kj60 (a0.extract 1 5)).bind fun t163 => (if 5 ≤ 9 then (if 9 ≤ (a0.size : Int) then ((bazaarref03_Get.f kj60 (a0.extract 5 9)).bind fun t164 => ((bazaarref10_Right.f kj60 3 ((t163) % 4294967296) 0 ((t164) % 4294967296)).bind fun t165 => (if t165 = true then (some (3, (t163) % 4294967296, 0, (t164) % 4294967296, 0)) else (some (0, 0, 0, 0, 100))))) else (none)) else (none))) else (none)) else (none)) = some (r1, r2, r3, r4, r5) := by rw [if_pos rfl] at H; exact H
                      clear H
                      have H := H1
                      clear H1
                      by_cases c66 : 1 ≤ 5
                      · rw [if_pos c66] at H
                        have c66b0 := eq_true c66
                        have c66b1 : decide (1 ≤ 5) = true := decide_eq_true c66
                        clear c66
                        by_cases c67 : 5 ≤ (a0.size : Int)
                        · rw [if_pos c67] at H
                          have c67b0 := eq_true c67
                          have c67b1 : decide (5 ≤ (a0.size : Int)) = true := decide_eq_true c67
                          clear c67
                          replace H := Option.bind_eq_some_iff.mp H
                          obtain ⟨t163, A680, H⟩ := H
                          replace H : (if 5 ≤ 9 then (if 9 ≤ (a0.size : Int) then ((bazaarref03_Get.f kj60 (a0.extract 5 9)).bind fun t164 => ((bazaarref10_Right.f kj60 3 ((t163) % 4294967296) 0 ((t164) % 4294967296)).bind fun t165 => (if t165 = true then (some (3, (t163) % 4294967296, 0, (t164) % 4294967296, 0)) else (some (0, 0, 0, 0, 100))))) else (none)) else (none)) = some (r1, r2, r3, r4, r5) := H
                          have A68 := Aside0.mk A680
                          clear A680
                          by_cases c69 : 5 ≤ 9
                          · rw [if_pos c69] at H
                            have c69b0 := eq_true c69
                            have c69b1 : decide (5 ≤ 9) = true := decide_eq_true c69
                            clear c69
                            by_cases c70 : 9 ≤ (a0.size : Int)
                            · rw [if_pos c70] at H
                              have c70b0 := eq_true c70
                              have c70b1 : decide (9 ≤ (a0.size : Int)) = true := decide_eq_true c70
                              clear c70
                              replace H := Option.bind_eq_some_iff.mp H
                              obtain ⟨t164, A710, H⟩ := H
                              replace H : ((bazaarref10_Right.f kj60 3 ((t163) % 4294967296) 0 ((t164) % 4294967296)).bind fun t165 => (if t165 = true then (some (3, (t163) % 4294967296, 0, (t164) % 4294967296, 0)) else (some (0, 0, 0, 0, 100)))) = some (r1, r2, r3, r4, r5) := H
                              have A71 := Aside0.mk A710
                              clear A710
                              replace H := Option.bind_eq_some_iff.mp H
                              obtain ⟨t165, A720, H⟩ := H
                              replace H : (if t165 = true then (some (3, (t163) % 4294967296, 0, (t164) % 4294967296, 0)) else (some (0, 0, 0, 0, 100))) = some (r1, r2, r3, r4, r5) := H
                              have A72 := Aside0.mk A720
                              clear A720
                              by_cases c73 : t165 = true
                              · subst c73
                                have H1 : (some (3, (t163) % 4294967296, 0, (t164) % 4294967296, 0)) = some (r1, r2, r3, r4, r5) := by rw [if_pos rfl] at H; exact H
                                clear H
                                have H := H1
                                clear H1
                                simp only [Option.some.injEq, Prod.mk.injEq] at H
                                obtain ⟨rfl, rfl, rfl, rfl, rfl⟩ := H
                                try go_wp2
                                have n0_ := Aside0.mk (blk_drew BK156.out)
                                have n1_ := Aside0.mk (blk_drew BK157.out)
                                have n2_ := Aside0.mk (below_drew1 HB.out)
                                clear BK156
                                clear BK157
                                clear HB
                                have BK156 := n0_
                                have BK157 := n1_
                                have HB := n2_
                                clear n0_ n1_ n2_
                                refine start_ (n := 10) (S := fun w' => True) (ds := []) #[false, false, false, false, false, false, false, false, false, false] (by kernel_rfl) rfl rfl trivial (fun hHeld => ?_); refine with_tabW bazaarref10_Parse.tab10 bazaarref10_Parse.bits10 (fun HT_ HW_ => ?_)
                                generalize wc.drew = w74 at BK156 BK157 HB hHeld ⊢
                                refine pure_ (i := 0) (N := some 50) (v := ?_) (a' := ?_) #[true, false, false, false, false, false, false, false, false, false] rfl rfl (any_of HT_.out (by kernel_rfl)) (fun _ _ _ h => h) (Or.inl ⟨by rfl, ?_⟩) ?_ ?_
                                rotate_left
                                · intro w'
                                  go_simp
                                  with_reducible rfl
                                rotate_left
                                · simp only [Act.put, List.setIfInBounds_toArray, List.set_cons_zero, List.set_cons_succ, i64_w, i32_w]
                                  rfl
                                refine pure_ (i := 1) (N := some 51) (v := ?_) (a' := ?_) #[true, true, false, false, false, false, false, false, false, false] rfl rfl (any_of HT_.out (by kernel_rfl)) (fun _ _ _ h => h) (Or.inl ⟨by rfl, ?_⟩) ?_ ?_
                                rotate_left
                                · intro w'
                                  go_simp
                                  with_reducible rfl
                                rotate_left
                                · simp only [Act.put, List.setIfInBounds_toArray, List.set_cons_zero, List.set_cons_succ, i64_w, i32_w]
                                  rfl
                                refine pure_ (i := 4) (N := some 54) (v := ?_) (a' := ?_) #[true, true, false, false, true, false, false, false, false, false] rfl rfl (any_of HT_.out (by kernel_rfl)) (fun _ _ _ h => h) (Or.inl ⟨by rfl, ?_⟩) ?_ ?_
                                rotate_left
                                · intro w'
                                  go_simp
                                  with_reducible rfl
                                rotate_left
                                · simp only [Act.put, List.setIfInBounds_toArray, List.set_cons_zero, List.set_cons_succ, i64_w, i32_w]
                                  rfl
                                refine pure_ (i := 5) (N := some 55) (v := ?_) (a' := ?_) #[true, true, false, false, true, true, false, false, false, false] rfl rfl (any_of HT_.out (by kernel_rfl)) (fun _ _ _ h => h) (Or.inl ⟨by rfl, ?_⟩) ?_ ?_
                                rotate_left
                                · intro w'
                                  go_simp
                                  with_reducible rfl
                                rotate_left
                                · simp only [Act.put, List.setIfInBounds_toArray, List.set_cons_zero, List.set_cons_succ, i64_w, i32_w]
                                  rfl
                                refine one_ (i := 2) (N := some 52) #[true, true, true, false, true, true, false, false, false, false] rfl rfl (one_of HT_.out (by kernel_rfl)) (by decide) (fun K hK => ?_)
                                refine goes_ Try.func22 (by kernel_rfl) rfl #[.string (a0.extract 1 5)] (by rfl) rfl rfl (by (try simp only [List.map_toArray, List.map_cons, List.map_nil]); first | done | rfl | (simp only [List.length_drop, List.length_take]; rfl)) ?_
                                with_reducible refine (bazaarref03_Get.calls kj60 (a0.extract 1 5) t163 _ A68.out).mono ?_
                                rintro e w' ⟨rfl, ⟨nd, rfl⟩⟩
                                refine ⟨_, rfl, ?_⟩
                                refine hK.out _ _ trivial (fun hHeld => ?_)
                                clear hK K
                                refine norm_ (a' := ?_) ?_ ?_
                                rotate_left
                                · show Act.put _ (some 52) _ = _
                                  simp only [Act.put, List.setIfInBounds_toArray, List.set_cons_zero, List.set_cons_succ, i64_w, i32_w]
                                  rfl
                                refine pure_ (i := 3) (N := some 53) (v := ?_) (a' := ?_) #[true, true, true, true, true, true, false, false, false, false] rfl rfl (any_of HT_.out (by kernel_rfl)) (fun _ _ _ h => h) (Or.inl ⟨by rfl, ?_⟩) ?_ ?_
                                rotate_left
                                · intro w'
                                  go_simp
                                  with_reducible rfl
                                rotate_left
                                · simp only [Act.put, List.setIfInBounds_toArray, List.set_cons_zero, List.set_cons_succ, i64_w, i32_w]
                                  rfl
                                refine one_ (i := 6) (N := some 56) #[true, true, true, true, true, true, true, false, false, false] rfl rfl (one_of HT_.out (by kernel_rfl)) (by decide) (fun K hK => ?_)
                                refine goes_ Try.func22 (by kernel_rfl) rfl #[.string (a0.extract 5 9)] (by rfl) rfl rfl (by (try simp only [List.map_toArray, List.map_cons, List.map_nil]); first | done | rfl | (simp only [List.length_drop, List.length_take]; rfl)) ?_
                                with_reducible refine (bazaarref03_Get.calls kj60 (a0.extract 5 9) t164 _ A71.out).mono ?_
                                rintro e w' ⟨rfl, ⟨nd, rfl⟩⟩
                                refine ⟨_, rfl, ?_⟩
                                refine hK.out _ _ trivial (fun hHeld => ?_)
                                clear hK K
                                refine norm_ (a' := ?_) ?_ ?_
                                rotate_left
                                · show Act.put _ (some 56) _ = _
                                  simp only [Act.put, List.setIfInBounds_toArray, List.set_cons_zero, List.set_cons_succ, i64_w, i32_w]
                                  rfl
                                refine pure_ (i := 7) (N := some 57) (v := ?_) (a' := ?_) #[true, true, true, true, true, true, true, true, false, false] rfl rfl (any_of HT_.out (by kernel_rfl)) (fun _ _ _ h => h) (Or.inl ⟨by rfl, ?_⟩) ?_ ?_
                                rotate_left
                                · intro w'
                                  go_simp
                                  with_reducible rfl
                                rotate_left
                                · simp only [Act.put, List.setIfInBounds_toArray, List.set_cons_zero, List.set_cons_succ, i64_w, i32_w]
                                  rfl
                                refine pure_ (i := 8) (N := some 58) (v := ?_) (a' := ?_) #[true, true, true, true, true, true, true, true, true, false] rfl rfl (any_of HT_.out (by kernel_rfl)) (fun _ _ _ h => h) (Or.inl ⟨by rfl, ?_⟩) ?_ ?_
                                rotate_left
                                · intro w'
                                  go_simp
                                  with_reducible rfl
                                rotate_left
                                · simp only [Act.put, List.setIfInBounds_toArray, List.set_cons_zero, List.set_cons_succ, i64_w, i32_w]
                                  rfl
                                refine one_ (i := 9) (N := none) #[true, true, true, true, true, true, true, true, true, true] rfl rfl (one_of HT_.out (by kernel_rfl)) (by decide) (fun K hK => ?_)
                                have hs75 : w74.cell? ⟨gb157, 0, none⟩ = some (.int .i64 0) := (blk_cell BK157.out 0).trans rfl
                                have hfs75 := blk_frozen BK157.out 0
                                have hns75_0 := NB156_157.out
                                have hms75_0 := NB157_156.out
                                have hs76 : w74.cell? ⟨gb157, 1, none⟩ = some (.int .u32 0) := (blk_cell BK157.out 1).trans rfl
                                have hfs76 := blk_frozen BK157.out 1
                                have hns76_0 := NB156_157.out
                                have hms76_0 := NB157_156.out
                                have hs77 : w74.cell? ⟨gb157, 2, none⟩ = some (.int .u16 0) := (blk_cell BK157.out 2).trans rfl
                                have hfs77 := blk_frozen BK157.out 2
                                have hns77_0 := NB156_157.out
                                have hms77_0 := NB157_156.out
                                have hs78 : w74.cell? ⟨gb157, 3, none⟩ = some (.int .u32 0) := (blk_cell BK157.out 3).trans rfl
                                have hfs78 := blk_frozen BK157.out 3
                                have hns78_0 := NB156_157.out
                                have hms78_0 := NB157_156.out
                                refine skip_ (w1 := ?_) (by rfl) rfl ?_ ?_
                                rotate_left
                                · go_simp
                                  rfl
                                refine hK.out _ _ trivial (fun hHeld => ?_)
                                clear hK K
                                refine done_ (done_of HT_.out (by kernel_rfl)) ?_
                                have hnb79 := NB157_156.out
                                have hnc79 := NB156_157.out
                                have hcz80_0 : w74.cell? ⟨gb157, 0, none⟩ = some (.int .i64 0) := (blk_cell BK157.out 0).trans rfl
                                have hcz80_1 : w74.cell? ⟨gb157, 1, none⟩ = some (.int .u32 0) := (blk_cell BK157.out 1).trans rfl
                                have hcz80_2 : w74.cell? ⟨gb157, 2, none⟩ = some (.int .u16 0) := (blk_cell BK157.out 2).trans rfl
                                have hcz80_3 : w74.cell? ⟨gb157, 3, none⟩ = some (.int .u32 0) := (blk_cell BK157.out 3).trans rfl
                                have hfz80_0 := blk_frozen BK157.out 0
                                have hfz80_1 := blk_frozen BK157.out 1
                                have hfz80_2 := blk_frozen BK157.out 2
                                have hfz80_3 := blk_frozen BK157.out 3
                                try go_wp2_with (first | ((with_reducible refine gate_callee (f := 14) rfl ?_); refine goesL_ (some 101) rfl rfl Try.func14 (by kernel_rfl) rfl #[.agg #[.int .i64 3, .int .u32 ((t163) % 4294967296), .int .u16 0, .int .u32 ((t164) % 4294967296)]] rfl (by (try simp only [List.map_toArray, List.map_cons, List.map_nil]); first | done | rfl | (simp only [List.length_drop, List.length_take]; rfl)) ?_; (with_reducible refine (bazaarref10_Right.calls kj60 3 ((t163) % 4294967296) 0 ((t164) % 4294967296) true _ A72.out).mono ?_); rintro e w81 ⟨rfl, hb⟩; refine ⟨_, rfl, ?_⟩; have n0_ := Aside0.mk (blk_below (g := gb156) (o := .cells #[.int .i64 0, .int .u32 0, .int .u16 0, .int .u32 0] 25 (0, 0)) (by (with_reducible repeat (first | refine blk_drewN ?_ _ | refine blk_drew ?_ | refine blk_alloc ?_ _)); refine blk_far ?_ NB156_157.out _; (with_reducible repeat (first | refine blk_drewN ?_ _ | refine blk_drew ?_ | refine blk_alloc ?_ _)); refine blk_far ?_ NB156_157.out _; (with_reducible repeat (first | refine blk_drewN ?_ _ | refine blk_drew ?_ | refine blk_alloc ?_ _)); refine blk_far ?_ NB156_157.out _; (with_reducible repeat (first | refine blk_drewN ?_ _ | refine blk_drew ?_ | refine blk_alloc ?_ _)); refine blk_far ?_ NB156_157.out _; (with_reducible repeat (first | refine blk_drewN ?_ _ | refine blk_drew ?_ | refine blk_alloc ?_ _)); exact BK156.out) hb); have n1_ := Aside0.mk (blk_below (g := gb157) (o := .cells #[.int .i64 3, .int .u32 ((t163) % 4294967296), .int .u16 0, .int .u32 ((t164) % 4294967296)] 25 (0, 0)) (by (with_reducible repeat (first | refine blk_drewN ?_ _ | refine blk_drew ?_ | refine blk_alloc ?_ _)); refine blk_put (cs := #[.int .i64 3, .int .u32 ((t163) % 4294967296), .int .u16 0, .int .u32 0]) ?_ 3 _ rfl; (with_reducible repeat (first | refine blk_drewN ?_ _ | refine blk_drew ?_ | refine blk_alloc ?_ _)); refine blk_put (cs := #[.int .i64 3, .int .u32 ((t163) % 4294967296), .int .u16 0, .int .u32 0]) ?_ 2 _ rfl; (with_reducible repeat (first | refine blk_drewN ?_ _ | refine blk_drew ?_ | refine blk_alloc ?_ _)); refine blk_put (cs := #[.int .i64 3, .int .u32 0, .int .u16 0, .int .u32 0]) ?_ 1 _ rfl; (with_reducible repeat (first | refine blk_drewN ?_ _ | refine blk_drew ?_ | refine blk_alloc ?_ _)); refine blk_put (cs := #[.int .i64 0, .int .u32 0, .int .u16 0, .int .u32 0]) ?_ 0 _ rfl; (with_reducible repeat (first | refine blk_drewN ?_ _ | refine blk_drew ?_ | refine blk_alloc ?_ _)); exact BK157.out) hb); have n2_ := Aside0.mk (below_step (by repeat (first | (with_reducible first | exact HB.out | apply below_alloc | apply pw_below_drewN | apply below_drew1 | refine below_set ?_ GE156.out | refine below_set ?_ GE157.out) | exact HB.out)) hb); clear BK156; clear BK157; clear HB; have BK156 := n0_; have BK157 := n1_; have HB := n2_; clear n0_ n1_ n2_; (try clear hb); (try clear hb2); (try clear hk); (try clear hi); have hcz82_0 : w81.cell? ⟨gb157, 0, none⟩ = some (.int .i64 3) := (blk_cell BK157.out 0).trans rfl; have hcz82_1 : w81.cell? ⟨gb157, 1, none⟩ = some (.int .u32 ((t163) % 4294967296)) := (blk_cell BK157.out 1).trans rfl; have hcz82_2 : w81.cell? ⟨gb157, 2, none⟩ = some (.int .u16 0) := (blk_cell BK157.out 2).trans rfl; have hcz82_3 : w81.cell? ⟨gb157, 3, none⟩ = some (.int .u32 ((t164) % 4294967296)) := (blk_cell BK157.out 3).trans rfl; have hfz82_0 := blk_frozen BK157.out 0; have hfz82_1 := blk_frozen BK157.out 1; have hfz82_2 := blk_frozen BK157.out 2; have hfz82_3 := blk_frozen BK157.out 3; have hcz83_0 : w81.cell? ⟨gb156, 0, none⟩ = some (.int .i64 0) := (blk_cell BK156.out 0).trans rfl; have hcz83_1 : w81.cell? ⟨gb156, 1, none⟩ = some (.int .u32 0) := (blk_cell BK156.out 1).trans rfl; have hcz83_2 : w81.cell? ⟨gb156, 2, none⟩ = some (.int .u16 0) := (blk_cell BK156.out 2).trans rfl; have hcz83_3 : w81.cell? ⟨gb156, 3, none⟩ = some (.int .u32 0) := (blk_cell BK156.out 3).trans rfl; have hfz83_0 := blk_frozen BK156.out 0; have hfz83_1 := blk_frozen BK156.out 1; have hfz83_2 := blk_frozen BK156.out 2; have hfz83_3 := blk_frozen BK156.out 3))
                                refine bodyPost_ret (results_ct rfl _ _ gb156 25 #[.int .i64 3, .int .u32 ((t163) % 4294967296), .int .u16 0, .int .u32 ((t164) % 4294967296)] (0, 0) _ rfl (by (with_reducible repeat (first | refine blk_drewN ?_ _ | refine blk_drew ?_ | refine blk_alloc ?_ _)); refine blk_put (cs := #[.int .i64 3, .int .u32 ((t163) % 4294967296), .int .u16 0, .int .u32 0]) ?_ 3 _ rfl; (with_reducible repeat (first | refine blk_drewN ?_ _ | refine blk_drew ?_ | refine blk_alloc ?_ _)); refine blk_put (cs := #[.int .i64 3, .int .u32 ((t163) % 4294967296), .int .u16 0, .int .u32 0]) ?_ 2 _ rfl; (with_reducible repeat (first | refine blk_drewN ?_ _ | refine blk_drew ?_ | refine blk_alloc ?_ _)); refine blk_put (cs := #[.int .i64 3, .int .u32 0, .int .u16 0, .int .u32 0]) ?_ 1 _ rfl; (with_reducible repeat (first | refine blk_drewN ?_ _ | refine blk_drew ?_ | refine blk_alloc ?_ _)); refine blk_put (cs := #[.int .i64 0, .int .u32 0, .int .u16 0, .int .u32 0]) ?_ 0 _ rfl; (with_reducible repeat (first | refine blk_drewN ?_ _ | refine blk_drew ?_ | refine blk_alloc ?_ _)); exact BK156.out) Try.underlying25 rfl (by kernel_rfl)) rfl ?_
                                exact ⟨by first | rfl | (simp [errW_none, errW_some] <;> rfl) | (simp [*, errW_none, errW_some] <;> rfl), by repeat (first | (with_reducible first | exact HB.out | apply below_alloc | apply pw_below_drewN | apply below_drew1 | refine below_set ?_ GE156.out | refine below_set ?_ GE157.out) | exact HB.out)⟩
                              · replace c73 := Bool.eq_false_iff.mpr c73
                                subst c73
                                have H1 : (some (0, 0, 0, 0, 100)) = some (r1, r2, r3, r4, r5) := by rw [if_neg (show ¬ (false = true) by decide)] at H; exact H
                                clear H
                                have H := H1
                                clear H1
                                simp only [Option.some.injEq, Prod.mk.injEq] at H
                                obtain ⟨rfl, rfl, rfl, rfl, rfl⟩ := H
                                try go_wp2
                                have n0_ := Aside0.mk (blk_drew BK156.out)
                                have n1_ := Aside0.mk (blk_drew BK157.out)
                                have n2_ := Aside0.mk (below_drew1 HB.out)
                                clear BK156
                                clear BK157
                                clear HB
                                have BK156 := n0_
                                have BK157 := n1_
                                have HB := n2_
                                clear n0_ n1_ n2_
                                refine start_ (n := 10) (S := fun w' => True) (ds := []) #[false, false, false, false, false, false, false, false, false, false] (by kernel_rfl) rfl rfl trivial (fun hHeld => ?_); refine with_tabW bazaarref10_Parse.tab10 bazaarref10_Parse.bits10 (fun HT_ HW_ => ?_)
                                generalize wc.drew = w84 at BK156 BK157 HB hHeld ⊢
                                refine pure_ (i := 0) (N := some 50) (v := ?_) (a' := ?_) #[true, false, false, false, false, false, false, false, false, false] rfl rfl (any_of HT_.out (by kernel_rfl)) (fun _ _ _ h => h) (Or.inl ⟨by rfl, ?_⟩) ?_ ?_
                                rotate_left
                                · intro w'
                                  go_simp
                                  with_reducible rfl
                                rotate_left
                                · simp only [Act.put, List.setIfInBounds_toArray, List.set_cons_zero, List.set_cons_succ, i64_w, i32_w]
                                  rfl
                                refine pure_ (i := 1) (N := some 51) (v := ?_) (a' := ?_) #[true, true, false, false, false, false, false, false, false, false] rfl rfl (any_of HT_.out (by kernel_rfl)) (fun _ _ _ h => h) (Or.inl ⟨by rfl, ?_⟩) ?_ ?_
                                rotate_left
                                · intro w'
                                  go_simp
                                  with_reducible rfl
                                rotate_left
                                · simp only [Act.put, List.setIfInBounds_toArray, List.set_cons_zero, List.set_cons_succ, i64_w, i32_w]
                                  rfl
                                refine pure_ (i := 4) (N := some 54) (v := ?_) (a' := ?_) #[true, true, false, false, true, false, false, false, false, false] rfl rfl (any_of HT_.out (by kernel_rfl)) (fun _ _ _ h => h) (Or.inl ⟨by rfl, ?_⟩) ?_ ?_
                                rotate_left
                                · intro w'
                                  go_simp
                                  with_reducible rfl
                                rotate_left
                                · simp only [Act.put, List.setIfInBounds_toArray, List.set_cons_zero, List.set_cons_succ, i64_w, i32_w]
                                  rfl
                                refine pure_ (i := 5) (N := some 55) (v := ?_) (a' := ?_) #[true, true, false, false, true, true, false, false, false, false] rfl rfl (any_of HT_.out (by kernel_rfl)) (fun _ _ _ h => h) (Or.inl ⟨by rfl, ?_⟩) ?_ ?_
                                rotate_left
                                · intro w'
                                  go_simp
                                  with_reducible rfl
                                rotate_left
                                · simp only [Act.put, List.setIfInBounds_toArray, List.set_cons_zero, List.set_cons_succ, i64_w, i32_w]
                                  rfl
                                refine one_ (i := 2) (N := some 52) #[true, true, true, false, true, true, false, false, false, false] rfl rfl (one_of HT_.out (by kernel_rfl)) (by decide) (fun K hK => ?_)
                                refine goes_ Try.func22 (by kernel_rfl) rfl #[.string (a0.extract 1 5)] (by rfl) rfl rfl (by (try simp only [List.map_toArray, List.map_cons, List.map_nil]); first | done | rfl | (simp only [List.length_drop, List.length_take]; rfl)) ?_
                                with_reducible refine (bazaarref03_Get.calls kj60 (a0.extract 1 5) t163 _ A68.out).mono ?_
                                rintro e w' ⟨rfl, ⟨nd, rfl⟩⟩
                                refine ⟨_, rfl, ?_⟩
                                refine hK.out _ _ trivial (fun hHeld => ?_)
                                clear hK K
                                refine norm_ (a' := ?_) ?_ ?_
                                rotate_left
                                · show Act.put _ (some 52) _ = _
                                  simp only [Act.put, List.setIfInBounds_toArray, List.set_cons_zero, List.set_cons_succ, i64_w, i32_w]
                                  rfl
                                refine pure_ (i := 3) (N := some 53) (v := ?_) (a' := ?_) #[true, true, true, true, true, true, false, false, false, false] rfl rfl (any_of HT_.out (by kernel_rfl)) (fun _ _ _ h => h) (Or.inl ⟨by rfl, ?_⟩) ?_ ?_
                                rotate_left
                                · intro w'
                                  go_simp
                                  with_reducible rfl
                                rotate_left
                                · simp only [Act.put, List.setIfInBounds_toArray, List.set_cons_zero, List.set_cons_succ, i64_w, i32_w]
                                  rfl
                                refine one_ (i := 6) (N := some 56) #[true, true, true, true, true, true, true, false, false, false] rfl rfl (one_of HT_.out (by kernel_rfl)) (by decide) (fun K hK => ?_)
                                refine goes_ Try.func22 (by kernel_rfl) rfl #[.string (a0.extract 5 9)] (by rfl) rfl rfl (by (try simp only [List.map_toArray, List.map_cons, List.map_nil]); first | done | rfl | (simp only [List.length_drop, List.length_take]; rfl)) ?_
                                with_reducible refine (bazaarref03_Get.calls kj60 (a0.extract 5 9) t164 _ A71.out).mono ?_
                                rintro e w' ⟨rfl, ⟨nd, rfl⟩⟩
                                refine ⟨_, rfl, ?_⟩
                                refine hK.out _ _ trivial (fun hHeld => ?_)
                                clear hK K
                                refine norm_ (a' := ?_) ?_ ?_
                                rotate_left
                                · show Act.put _ (some 56) _ = _
                                  simp only [Act.put, List.setIfInBounds_toArray, List.set_cons_zero, List.set_cons_succ, i64_w, i32_w]
                                  rfl
                                refine pure_ (i := 7) (N := some 57) (v := ?_) (a' := ?_) #[true, true, true, true, true, true, true, true, false, false] rfl rfl (any_of HT_.out (by kernel_rfl)) (fun _ _ _ h => h) (Or.inl ⟨by rfl, ?_⟩) ?_ ?_
                                rotate_left
                                · intro w'
                                  go_simp
                                  with_reducible rfl
                                rotate_left
                                · simp only [Act.put, List.setIfInBounds_toArray, List.set_cons_zero, List.set_cons_succ, i64_w, i32_w]
                                  rfl
                                refine pure_ (i := 8) (N := some 58) (v := ?_) (a' := ?_) #[true, true, true, true, true, true, true, true, true, false] rfl rfl (any_of HT_.out (by kernel_rfl)) (fun _ _ _ h => h) (Or.inl ⟨by rfl, ?_⟩) ?_ ?_
                                rotate_left
                                · intro w'
                                  go_simp
                                  with_reducible rfl
                                rotate_left
                                · simp only [Act.put, List.setIfInBounds_toArray, List.set_cons_zero, List.set_cons_succ, i64_w, i32_w]
                                  rfl
                                refine one_ (i := 9) (N := none) #[true, true, true, true, true, true, true, true, true, true] rfl rfl (one_of HT_.out (by kernel_rfl)) (by decide) (fun K hK => ?_)
                                have hs85 : w84.cell? ⟨gb157, 0, none⟩ = some (.int .i64 0) := (blk_cell BK157.out 0).trans rfl
                                have hfs85 := blk_frozen BK157.out 0
                                have hns85_0 := NB156_157.out
                                have hms85_0 := NB157_156.out
                                have hs86 : w84.cell? ⟨gb157, 1, none⟩ = some (.int .u32 0) := (blk_cell BK157.out 1).trans rfl
                                have hfs86 := blk_frozen BK157.out 1
                                have hns86_0 := NB156_157.out
                                have hms86_0 := NB157_156.out
                                have hs87 : w84.cell? ⟨gb157, 2, none⟩ = some (.int .u16 0) := (blk_cell BK157.out 2).trans rfl
                                have hfs87 := blk_frozen BK157.out 2
                                have hns87_0 := NB156_157.out
                                have hms87_0 := NB157_156.out
                                have hs88 : w84.cell? ⟨gb157, 3, none⟩ = some (.int .u32 0) := (blk_cell BK157.out 3).trans rfl
                                have hfs88 := blk_frozen BK157.out 3
                                have hns88_0 := NB156_157.out
                                have hms88_0 := NB157_156.out
                                refine skip_ (w1 := ?_) (by rfl) rfl ?_ ?_
                                rotate_left
                                · go_simp
                                  rfl
                                refine hK.out _ _ trivial (fun hHeld => ?_)
                                clear hK K
                                refine done_ (done_of HT_.out (by kernel_rfl)) ?_
                                have hnb89 := NB157_156.out
                                have hnc89 := NB156_157.out
                                have hcz90_0 : w84.cell? ⟨gb157, 0, none⟩ = some (.int .i64 0) := (blk_cell BK157.out 0).trans rfl
                                have hcz90_1 : w84.cell? ⟨gb157, 1, none⟩ = some (.int .u32 0) := (blk_cell BK157.out 1).trans rfl
                                have hcz90_2 : w84.cell? ⟨gb157, 2, none⟩ = some (.int .u16 0) := (blk_cell BK157.out 2).trans rfl
                                have hcz90_3 : w84.cell? ⟨gb157, 3, none⟩ = some (.int .u32 0) := (blk_cell BK157.out 3).trans rfl
                                have hfz90_0 := blk_frozen BK157.out 0
                                have hfz90_1 := blk_frozen BK157.out 1
                                have hfz90_2 := blk_frozen BK157.out 2
                                have hfz90_3 := blk_frozen BK157.out 3
                                try go_wp2_with (first | ((with_reducible refine gate_callee (f := 14) rfl ?_); refine goesL_ (some 101) rfl rfl Try.func14 (by kernel_rfl) rfl #[.agg #[.int .i64 3, .int .u32 ((t163) % 4294967296), .int .u16 0, .int .u32 ((t164) % 4294967296)]] rfl (by (try simp only [List.map_toArray, List.map_cons, List.map_nil]); first | done | rfl | (simp only [List.length_drop, List.length_take]; rfl)) ?_; (with_reducible refine (bazaarref10_Right.calls kj60 3 ((t163) % 4294967296) 0 ((t164) % 4294967296) false _ A72.out).mono ?_); rintro e w91 ⟨rfl, hb⟩; refine ⟨_, rfl, ?_⟩; have n0_ := Aside0.mk (blk_below (g := gb156) (o := .cells #[.int .i64 0, .int .u32 0, .int .u16 0, .int .u32 0] 25 (0, 0)) (by (with_reducible repeat (first | refine blk_drewN ?_ _ | refine blk_drew ?_ | refine blk_alloc ?_ _)); refine blk_far ?_ NB156_157.out _; (with_reducible repeat (first | refine blk_drewN ?_ _ | refine blk_drew ?_ | refine blk_alloc ?_ _)); refine blk_far ?_ NB156_157.out _; (with_reducible repeat (first | refine blk_drewN ?_ _ | refine blk_drew ?_ | refine blk_alloc ?_ _)); refine blk_far ?_ NB156_157.out _; (with_reducible repeat (first | refine blk_drewN ?_ _ | refine blk_drew ?_ | refine blk_alloc ?_ _)); refine blk_far ?_ NB156_157.out _; (with_reducible repeat (first | refine blk_drewN ?_ _ | refine blk_drew ?_ | refine blk_alloc ?_ _)); exact BK156.out) hb); have n1_ := Aside0.mk (blk_below (g := gb157) (o := .cells #[.int .i64 3, .int .u32 ((t163) % 4294967296), .int .u16 0, .int .u32 ((t164) % 4294967296)] 25 (0, 0)) (by (with_reducible repeat (first | refine blk_drewN ?_ _ | refine blk_drew ?_ | refine blk_alloc ?_ _)); refine blk_put (cs := #[.int .i64 3, .int .u32 ((t163) % 4294967296), .int .u16 0, .int .u32 0]) ?_ 3 _ rfl; (with_reducible repeat (first | refine blk_drewN ?_ _ | refine blk_drew ?_ | refine blk_alloc ?_ _)); refine blk_put (cs := #[.int .i64 3, .int .u32 ((t163) % 4294967296), .int .u16 0, .int .u32 0]) ?_ 2 _ rfl; (with_reducible repeat (first | refine blk_drewN ?_ _ | refine blk_drew ?_ | refine blk_alloc ?_ _)); refine blk_put (cs := #[.int .i64 3, .int .u32 0, .int .u16 0, .int .u32 0]) ?_ 1 _ rfl; (with_reducible repeat (first | refine blk_drewN ?_ _ | refine blk_drew ?_ | refine blk_alloc ?_ _)); refine blk_put (cs := #[.int .i64 0, .int .u32 0, .int .u16 0, .int .u32 0]) ?_ 0 _ rfl; (with_reducible repeat (first | refine blk_drewN ?_ _ | refine blk_drew ?_ | refine blk_alloc ?_ _)); exact BK157.out) hb); have n2_ := Aside0.mk (below_step (by repeat (first | (with_reducible first | exact HB.out | apply below_alloc | apply pw_below_drewN | apply below_drew1 | refine below_set ?_ GE156.out | refine below_set ?_ GE157.out) | exact HB.out)) hb); clear BK156; clear BK157; clear HB; have BK156 := n0_; have BK157 := n1_; have HB := n2_; clear n0_ n1_ n2_; (try clear hb); (try clear hb2); (try clear hk); (try clear hi); have hcz92_0 : w91.cell? ⟨gb156, 0, none⟩ = some (.int .i64 0) := (blk_cell BK156.out 0).trans rfl; have hcz92_1 : w91.cell? ⟨gb156, 1, none⟩ = some (.int .u32 0) := (blk_cell BK156.out 1).trans rfl; have hcz92_2 : w91.cell? ⟨gb156, 2, none⟩ = some (.int .u16 0) := (blk_cell BK156.out 2).trans rfl; have hcz92_3 : w91.cell? ⟨gb156, 3, none⟩ = some (.int .u32 0) := (blk_cell BK156.out 3).trans rfl; have hfz92_0 := blk_frozen BK156.out 0; have hfz92_1 := blk_frozen BK156.out 1; have hfz92_2 := blk_frozen BK156.out 2; have hfz92_3 := blk_frozen BK156.out 3))
                                refine bodyPost_ret (results_ct rfl _ _ gb156 25 #[.int .i64 0, .int .u32 0, .int .u16 0, .int .u32 0] (0, 0) _ rfl (by (with_reducible repeat (first | refine blk_drewN ?_ _ | refine blk_drew ?_ | refine blk_alloc ?_ _)); refine blk_put (cs := #[.int .i64 0, .int .u32 0, .int .u16 0, .int .u32 0]) ?_ 3 _ rfl; (with_reducible repeat (first | refine blk_drewN ?_ _ | refine blk_drew ?_ | refine blk_alloc ?_ _)); refine blk_put (cs := #[.int .i64 0, .int .u32 0, .int .u16 0, .int .u32 0]) ?_ 2 _ rfl; (with_reducible repeat (first | refine blk_drewN ?_ _ | refine blk_drew ?_ | refine blk_alloc ?_ _)); refine blk_put (cs := #[.int .i64 0, .int .u32 0, .int .u16 0, .int .u32 0]) ?_ 1 _ rfl; (with_reducible repeat (first | refine blk_drewN ?_ _ | refine blk_drew ?_ | refine blk_alloc ?_ _)); refine blk_put (cs := #[.int .i64 0, .int .u32 0, .int .u16 0, .int .u32 0]) ?_ 0 _ rfl; (with_reducible repeat (first | refine blk_drewN ?_ _ | refine blk_drew ?_ | refine blk_alloc ?_ _)); exact BK156.out) Try.underlying25 rfl (by kernel_rfl)) rfl ?_
                                exact ⟨by first | rfl | (simp [errW_none, errW_some] <;> rfl) | (simp [*, errW_none, errW_some] <;> rfl), by repeat (first | (with_reducible first | exact HB.out | apply below_alloc | apply pw_below_drewN | apply below_drew1 | refine below_set ?_ GE156.out | refine below_set ?_ GE157.out) | exact HB.out)⟩
                            · rw [if_neg c70] at H
                              exact absurd H (by simp)
                          · rw [if_neg c69] at H
                            exact absurd H (by simp)
                        · rw [if_neg c67] at H
                          exact absurd H (by simp)
                      · rw [if_neg c66] at H
                        exact absurd H (by simp)
                    · replace c65 := Bool.eq_false_iff.mpr c65
                      subst c65
                      have H1 : (if 0 < (a0.size : Int) then (if (bt a0 0) = 115 then (bazaarref10_Parse.j3 kj60 a0 (a0.size : Int) ((a0.size : Int) == 5) 0 0 0 0) else (bazaarref10_Parse.j3 kj60 a0 (a0.size : Int) false 0 0 0 0)) else (none)) = some (r1, r2, r3, r4, r5) := by rw [if_neg (show ¬ (false = true) by decide)] at H; exact H
                      clear H
                      have H := H1
                      clear H1
                      have HC93 := Aside0.mk H
                      clear H
                      go_upto_region 11 with (fail)
                      go_cut [59] (fun v59 wc => ∃ (kq : Nat) (x59_92 : Bool), v59 = .bool x59_92 ∧ Aside0 (bazaarref10_Parse.j3 kq a0 (a0.size : Int) x59_92 0 0 0 0 = some (r1, r2, r3, r4, r5)) ∧ Aside0 (kq ≤ kj60) ∧ Aside0 (wc.heap[gb156]? = some (.cells #[.int .i64 0, .int .u32 0, .int .u16 0, .int .u32 0] 25 (0, 0))) ∧ Aside0 (wc.heap[gb157]? = some (.cells #[.int .i64 0, .int .u32 0, .int .u16 0, .int .u32 0] 25 (0, 0))) ∧ Aside0 (Below w.heap.size w wc))
                      case first =>
                        have H := HC93.out
                        clear HC93
                        by_cases c94 : 0 < (a0.size : Int)
                        · rw [if_pos c94] at H
                          have c94b0 : decide (0 < (a0.size : Int)) = true := decide_eq_true c94
                          have c94b1 : decide (0 < a0.size) = true := decide_eq_true (by omega)
                          clear c94
                          (first | rw [c94b0] | (simp only [i64_w, i32_w]; rw [c94b0]) | skip)
                          by_cases c96 : (bt a0 0) = 115
                          · rw [if_pos c96] at H
                            have c96b0 : ((bt a0 0) == 115) = true := beq_iff_eq.mpr c96
                            have c96b1 : ((bt a0 0) != 115) = false := bne_eq_false_iff_eq.mpr c96
                            clear c96
                            have H' := Aside0.mk H
                            clear H
                            have p95 : 0 ≤ (0 : Int) := (by omega)
                            have q95 : 0 < a0.size := (by have : (0 : Int) < (a0.size : Int) := of_decide_eq_true (by first | (with_reducible assumption) | assumption); omega)
                            have hx95 : ∀ h : 0 < a0.size, ((a0[0]'h).toNat : Int) = bt a0 0 := bt_at a0 0
                            clear p95
                            have qi95 : (0 < (a0.size : Int)) = True := eq_true (of_decide_eq_true (by first | (with_reducible assumption) | assumption))
                            replace q95 := eq_true q95
                            go_wp2
                            go_meet
                            case rel => exact ⟨_, (((a0.size : Int) == 5)), (by first | rfl | (simp; done) | (simp [*]; done)), H', ⟨by have := HJ7.out; have := HJ28.out; have := HJ60.out; first | omega | exact Nat.le_refl _⟩, ⟨by (with_reducible repeat (first | refine blk_drewN ?_ _ | refine blk_drew ?_ | refine blk_alloc ?_ _)); exact BK156.out⟩, ⟨by (with_reducible repeat (first | refine blk_drewN ?_ _ | refine blk_drew ?_ | refine blk_alloc ?_ _)); exact BK157.out⟩, ⟨by repeat (first | (with_reducible first | exact HB.out | apply below_alloc | apply pw_below_drewN | apply below_drew1 | refine below_set ?_ GE156.out | refine below_set ?_ GE157.out) | exact HB.out)⟩⟩
                          · rw [if_neg c96] at H
                            have c96b0 : ((bt a0 0) == 115) = false := beq_eq_false_iff_ne.mpr c96
                            have c96b1 : ((bt a0 0) != 115) = true := bne_iff_ne.mpr c96
                            have H' := Aside0.mk H
                            clear H
                            have p95 : 0 ≤ (0 : Int) := (by omega)
                            have q95 : 0 < a0.size := (by have : (0 : Int) < (a0.size : Int) := of_decide_eq_true (by first | (with_reducible assumption) | assumption); omega)
                            have hx95 : ∀ h : 0 < a0.size, ((a0[0]'h).toNat : Int) = bt a0 0 := bt_at a0 0
                            clear p95
                            have qi95 : (0 < (a0.size : Int)) = True := eq_true (of_decide_eq_true (by first | (with_reducible assumption) | assumption))
                            replace q95 := eq_true q95
                            go_wp2
                            go_meet
                            case rel => exact ⟨_, (false), (by first | rfl | (simp; done) | (simp [*]; done)), H', ⟨by have := HJ7.out; have := HJ28.out; have := HJ60.out; first | omega | exact Nat.le_refl _⟩, ⟨by (with_reducible repeat (first | refine blk_drewN ?_ _ | refine blk_drew ?_ | refine blk_alloc ?_ _)); exact BK156.out⟩, ⟨by (with_reducible repeat (first | refine blk_drewN ?_ _ | refine blk_drew ?_ | refine blk_alloc ?_ _)); exact BK157.out⟩, ⟨by repeat (first | (with_reducible first | exact HB.out | apply below_alloc | apply pw_below_drewN | apply below_drew1 | refine below_set ?_ GE156.out | refine below_set ?_ GE157.out) | exact HB.out)⟩⟩
                        · rw [if_neg c94] at H
                          exact absurd H (by simp)
                      case rest =>
                        clear HC93
                        try clear c1
                        try clear p1
                        try clear q1
                        try clear hx1
                        try clear qi1
                        try clear c2
                        try clear c2b0
                        try clear c2b1
                        try clear p2
                        try clear c3
                        try clear p3
                        try clear q3
                        try clear hx3
                        try clear qi3
                        try clear c4
                        try clear c5
                        try clear c6
                        try clear p6
                        try clear q6
                        try clear hx6
                        try clear qi6
                        try clear c7
                        try clear c8
                        try clear c9
                        try clear p9
                        try clear q9
                        try clear hx9
                        try clear qi9
                        try clear c11
                        try clear c11b0
                        try clear c11b1
                        try clear c12
                        try clear p12
                        try clear q12
                        try clear hx12
                        try clear qi12
                        try clear c13
                        try clear c13b0
                        try clear c13b1
                        try clear c14
                        try clear c15
                        try clear c15b0
                        try clear c15b1
                        try clear c16
                        try clear c16b0
                        try clear c16b1
                        try clear c19
                        try clear c20
                        try clear c22
                        try clear c25
                        try clear c30
                        try clear c30b0
                        try clear c30b1
                        try clear p31
                        try clear q31
                        try clear hx31
                        try clear qi31
                        try clear c32
                        try clear c32b0
                        try clear c32b1
                        try clear c33
                        try clear c34
                        try clear c34b0
                        try clear c34b1
                        try clear c35
                        try clear c35b0
                        try clear c35b1
                        try clear c37
                        try clear c37b0
                        try clear c37b1
                        try clear c38
                        try clear c38b0
                        try clear c38b1
                        try clear c41
                        try clear c47
                        try clear c57
                        try clear c62
                        try clear c62b0
                        try clear c62b1
                        try clear p63
                        try clear q63
                        try clear hx63
                        try clear qi63
                        try clear c64
                        try clear c64b0
                        try clear c64b1
                        try clear c65
                        try clear c66
                        try clear c66b0
                        try clear c66b1
                        try clear c67
                        try clear c67b0
                        try clear c67b1
                        try clear c69
                        try clear c69b0
                        try clear c69b1
                        try clear c70
                        try clear c70b0
                        try clear c70b1
                        try clear c73
                        try clear c79
                        try clear c89
                        try clear c94
                        try clear c94b0
                        try clear c94b1
                        try clear p95
                        try clear q95
                        try clear hx95
                        try clear qi95
                        try clear c96
                        try clear c96b0
                        try clear c96b1
                        try clear hcz21_0
                        try clear hcz21_1
                        try clear hcz21_2
                        try clear hcz21_3
                        try clear hcz23_0
                        try clear hcz23_1
                        try clear hcz23_2
                        try clear hcz23_3
                        try clear hcz24_0
                        try clear hcz24_1
                        try clear hcz24_2
                        try clear hcz24_3
                        try clear hcz26_0
                        try clear hcz26_1
                        try clear hcz26_2
                        try clear hcz26_3
                        try clear hcz28_0
                        try clear hcz28_1
                        try clear hcz28_2
                        try clear hcz28_3
                        try clear hcz48_0
                        try clear hcz48_1
                        try clear hcz48_2
                        try clear hcz48_3
                        try clear hcz50_0
                        try clear hcz50_1
                        try clear hcz50_2
                        try clear hcz50_3
                        try clear hcz51_0
                        try clear hcz51_1
                        try clear hcz51_2
                        try clear hcz51_3
                        try clear hcz58_0
                        try clear hcz58_1
                        try clear hcz58_2
                        try clear hcz58_3
                        try clear hcz60_0
                        try clear hcz60_1
                        try clear hcz60_2
                        try clear hcz60_3
                        try clear hcz6_0
                        try clear hcz6_1
                        try clear hcz6_2
                        try clear hcz6_3
                        try clear hcz7_0
                        try clear hcz7_1
                        try clear hcz7_2
                        try clear hcz7_3
                        try clear hcz80_0
                        try clear hcz80_1
                        try clear hcz80_2
                        try clear hcz80_3
                        try clear hcz82_0
                        try clear hcz82_1
                        try clear hcz82_2
                        try clear hcz82_3
                        try clear hcz83_0
                        try clear hcz83_1
                        try clear hcz83_2
                        try clear hcz83_3
                        try clear hcz90_0
                        try clear hcz90_1
                        try clear hcz90_2
                        try clear hcz90_3
                        try clear hcz92_0
                        try clear hcz92_1
                        try clear hcz92_2
                        try clear hcz92_3
                        try clear hfz21_0
                        try clear hfz21_1
                        try clear hfz21_2
                        try clear hfz21_3
                        try clear hfz23_0
                        try clear hfz23_1
                        try clear hfz23_2
                        try clear hfz23_3
                        try clear hfz24_0
                        try clear hfz24_1
                        try clear hfz24_2
                        try clear hfz24_3
                        try clear hfz26_0
                        try clear hfz26_1
                        try clear hfz26_2
                        try clear hfz26_3
                        try clear hfz28_0
                        try clear hfz28_1
                        try clear hfz28_2
                        try clear hfz28_3
                        try clear hfz48_0
                        try clear hfz48_1
                        try clear hfz48_2
                        try clear hfz48_3
                        try clear hfz50_0
                        try clear hfz50_1
                        try clear hfz50_2
                        try clear hfz50_3
                        try clear hfz51_0
                        try clear hfz51_1
                        try clear hfz51_2
                        try clear hfz51_3
                        try clear hfz58_0
                        try clear hfz58_1
                        try clear hfz58_2
                        try clear hfz58_3
                        try clear hfz60_0
                        try clear hfz60_1
                        try clear hfz60_2
                        try clear hfz60_3
                        try clear hfz6_0
                        try clear hfz6_1
                        try clear hfz6_2
                        try clear hfz6_3
                        try clear hfz7_0
                        try clear hfz7_1
                        try clear hfz7_2
                        try clear hfz7_3
                        try clear hfz80_0
                        try clear hfz80_1
                        try clear hfz80_2
                        try clear hfz80_3
                        try clear hfz82_0
                        try clear hfz82_1
                        try clear hfz82_2
                        try clear hfz82_3
                        try clear hfz83_0
                        try clear hfz83_1
                        try clear hfz83_2
                        try clear hfz83_3
                        try clear hfz90_0
                        try clear hfz90_1
                        try clear hfz90_2
                        try clear hfz90_3
                        try clear hfz92_0
                        try clear hfz92_1
                        try clear hfz92_2
                        try clear hfz92_3
                        try clear p1
                        try clear p12
                        try clear p2
                        try clear p3
                        try clear p31
                        try clear p6
                        try clear p63
                        try clear p95
                        try clear q1
                        try clear q12
                        try clear q3
                        try clear q31
                        try clear q6
                        try clear q63
                        try clear q95
                        obtain ⟨kq, x59_92, rfl, HA, HJ92, BK156, BK157, HB⟩ := hcut
                        cases kq with
                        | zero => exact absurd HA.out (by simp [bazaarref10_Parse.j3])
                        | succ kj92 =>
                          have H := HA.out
                          clear HA
                          simp only [bazaarref10_Parse.j3] at H
                          by_cases c97 : x59_92 = true
                          · subst c97
                            have H1 : (if 1 ≤ 5 then (if 5 ≤ (a0.size : Int) then ((bazaarref03_Get.f kj92 (a0.extract 1 5)).bind fun t166 => ((bazaarref10_Right.f kj92 4 ((t166) % 4294967296) 0 0).bind fun t167 => (if t167 = true then (some (4, (t166) % 4294967296, 0, 0, 0)) else (some (0, 0, 0, 0, 100))))) else (none)) else (none)) = some (r1, r2, r3, r4, r5) := by rw [if_pos rfl] at H; exact H
                            clear H
                            have H := H1
                            clear H1
                            by_cases c98 : 1 ≤ 5
                            · rw [if_pos c98] at H
                              have c98b0 := eq_true c98
                              have c98b1 : decide (1 ≤ 5) = true := decide_eq_true c98
                              clear c98
                              by_cases c99 : 5 ≤ (a0.size : Int)
                              · rw [if_pos c99] at H
                                have c99b0 := eq_true c99
                                have c99b1 : decide (5 ≤ (a0.size : Int)) = true := decide_eq_true c99
                                clear c99
                                replace H := Option.bind_eq_some_iff.mp H
                                obtain ⟨t166, A1000, H⟩ := H
                                replace H : ((bazaarref10_Right.f kj92 4 ((t166) % 4294967296) 0 0).bind fun t167 => (if t167 = true then (some (4, (t166) % 4294967296, 0, 0, 0)) else (some (0, 0, 0, 0, 100)))) = some (r1, r2, r3, r4, r5) := H
                                have A100 := Aside0.mk A1000
                                clear A1000
                                replace H := Option.bind_eq_some_iff.mp H
                                obtain ⟨t167, A1010, H⟩ := H
                                replace H : (if t167 = true then (some (4, (t166) % 4294967296, 0, 0, 0)) else (some (0, 0, 0, 0, 100))) = some (r1, r2, r3, r4, r5) := H
                                have A101 := Aside0.mk A1010
                                clear A1010
                                by_cases c102 : t167 = true
                                · subst c102
                                  have H1 : (some (4, (t166) % 4294967296, 0, 0, 0)) = some (r1, r2, r3, r4, r5) := by rw [if_pos rfl] at H; exact H
                                  clear H
                                  have H := H1
                                  clear H1
                                  simp only [Option.some.injEq, Prod.mk.injEq] at H
                                  obtain ⟨rfl, rfl, rfl, rfl, rfl⟩ := H
                                  go_wp2_with (first | ((with_reducible refine gate_callee (f := 22) rfl ?_); refine goesL_ (some 69) rfl rfl Try.func22 (by kernel_rfl) rfl #[.string (a0.extract 1 5)] rfl (by (try simp only [List.map_toArray, List.map_cons, List.map_nil]); first | done | rfl | (simp only [List.length_drop, List.length_take]; rfl)) ?_; (with_reducible refine (bazaarref03_Get.calls kj92 (a0.extract 1 5) t166 _ A100.out).mono ?_); rintro e w' ⟨rfl, ⟨nd, rfl⟩⟩; refine ⟨_, rfl, ?_⟩; (try (rw [drewN_self wc]; generalize hq_ : World.drewN wc _ = wc; have n0_ : Aside0 (wc.heap[gb156]? = some (.cells #[.int .i64 0, .int .u32 0, .int .u16 0, .int .u32 0] 25 (0, 0))) := ⟨by rw [← hq_]; exact (by (with_reducible repeat (first | refine blk_drewN ?_ _ | refine blk_drew ?_ | refine blk_alloc ?_ _)); exact BK156.out)⟩; have n1_ : Aside0 (wc.heap[gb157]? = some (.cells #[.int .i64 0, .int .u32 0, .int .u16 0, .int .u32 0] 25 (0, 0))) := ⟨by rw [← hq_]; exact (by (with_reducible repeat (first | refine blk_drewN ?_ _ | refine blk_drew ?_ | refine blk_alloc ?_ _)); exact BK157.out)⟩; have n2_ : Aside0 (Below w.heap.size w wc) := ⟨by rw [← hq_]; exact (by repeat (first | (with_reducible first | exact HB.out | apply below_alloc | apply pw_below_drewN | apply below_drew1 | refine below_set ?_ GE156.out | refine below_set ?_ GE157.out) | exact HB.out))⟩; clear BK156 BK157 HB hq_; have BK156 := n0_; have BK157 := n1_; have HB := n2_; clear n0_ n1_ n2_)); have hnb103 := NB157_156.out; have hnc103 := NB156_157.out; have hcz104_0 : wc.cell? ⟨gb157, 0, none⟩ = some (.int .i64 0) := (blk_cell BK157.out 0).trans rfl; have hcz104_1 : wc.cell? ⟨gb157, 1, none⟩ = some (.int .u32 0) := (blk_cell BK157.out 1).trans rfl; have hcz104_2 : wc.cell? ⟨gb157, 2, none⟩ = some (.int .u16 0) := (blk_cell BK157.out 2).trans rfl; have hcz104_3 : wc.cell? ⟨gb157, 3, none⟩ = some (.int .u32 0) := (blk_cell BK157.out 3).trans rfl; have hfz104_0 := blk_frozen BK157.out 0; have hfz104_1 := blk_frozen BK157.out 1; have hfz104_2 := blk_frozen BK157.out 2; have hfz104_3 := blk_frozen BK157.out 3) | ((with_reducible refine gate_callee (f := 14) rfl ?_); refine goesL_ (some 101) rfl rfl Try.func14 (by kernel_rfl) rfl #[.agg #[.int .i64 4, .int .u32 ((t166) % 4294967296), .int .u16 0, .int .u32 0]] rfl (by (try simp only [List.map_toArray, List.map_cons, List.map_nil]); first | done | rfl | (simp only [List.length_drop, List.length_take]; rfl)) ?_; (with_reducible refine (bazaarref10_Right.calls kj92 4 ((t166) % 4294967296) 0 0 true _ A101.out).mono ?_); rintro e w105 ⟨rfl, hb⟩; refine ⟨_, rfl, ?_⟩; have n0_ := Aside0.mk (blk_below (g := gb156) (o := .cells #[.int .i64 0, .int .u32 0, .int .u16 0, .int .u32 0] 25 (0, 0)) (by (with_reducible repeat (first | refine blk_drewN ?_ _ | refine blk_drew ?_ | refine blk_alloc ?_ _)); refine blk_far ?_ NB156_157.out _; (with_reducible repeat (first | refine blk_drewN ?_ _ | refine blk_drew ?_ | refine blk_alloc ?_ _)); refine blk_far ?_ NB156_157.out _; (with_reducible repeat (first | refine blk_drewN ?_ _ | refine blk_drew ?_ | refine blk_alloc ?_ _)); refine blk_far ?_ NB156_157.out _; (with_reducible repeat (first | refine blk_drewN ?_ _ | refine blk_drew ?_ | refine blk_alloc ?_ _)); refine blk_far ?_ NB156_157.out _; (with_reducible repeat (first | refine blk_drewN ?_ _ | refine blk_drew ?_ | refine blk_alloc ?_ _)); exact BK156.out) hb); have n1_ := Aside0.mk (blk_below (g := gb157) (o := .cells #[.int .i64 4, .int .u32 ((t166) % 4294967296), .int .u16 0, .int .u32 0] 25 (0, 0)) (by (with_reducible repeat (first | refine blk_drewN ?_ _ | refine blk_drew ?_ | refine blk_alloc ?_ _)); refine blk_put (cs := #[.int .i64 4, .int .u32 ((t166) % 4294967296), .int .u16 0, .int .u32 0]) ?_ 3 _ rfl; (with_reducible repeat (first | refine blk_drewN ?_ _ | refine blk_drew ?_ | refine blk_alloc ?_ _)); refine blk_put (cs := #[.int .i64 4, .int .u32 ((t166) % 4294967296), .int .u16 0, .int .u32 0]) ?_ 2 _ rfl; (with_reducible repeat (first | refine blk_drewN ?_ _ | refine blk_drew ?_ | refine blk_alloc ?_ _)); refine blk_put (cs := #[.int .i64 4, .int .u32 0, .int .u16 0, .int .u32 0]) ?_ 1 _ rfl; (with_reducible repeat (first | refine blk_drewN ?_ _ | refine blk_drew ?_ | refine blk_alloc ?_ _)); refine blk_put (cs := #[.int .i64 0, .int .u32 0, .int .u16 0, .int .u32 0]) ?_ 0 _ rfl; (with_reducible repeat (first | refine blk_drewN ?_ _ | refine blk_drew ?_ | refine blk_alloc ?_ _)); exact BK157.out) hb); have n2_ := Aside0.mk (below_step (by repeat (first | (with_reducible first | exact HB.out | apply below_alloc | apply pw_below_drewN | apply below_drew1 | refine below_set ?_ GE156.out | refine below_set ?_ GE157.out) | exact HB.out)) hb); clear BK156; clear BK157; clear HB; have BK156 := n0_; have BK157 := n1_; have HB := n2_; clear n0_ n1_ n2_; (try clear hb); (try clear hb2); (try clear hk); (try clear hi); have hcz106_0 : w105.cell? ⟨gb157, 0, none⟩ = some (.int .i64 4) := (blk_cell BK157.out 0).trans rfl; have hcz106_1 : w105.cell? ⟨gb157, 1, none⟩ = some (.int .u32 ((t166) % 4294967296)) := (blk_cell BK157.out 1).trans rfl; have hcz106_2 : w105.cell? ⟨gb157, 2, none⟩ = some (.int .u16 0) := (blk_cell BK157.out 2).trans rfl; have hcz106_3 : w105.cell? ⟨gb157, 3, none⟩ = some (.int .u32 0) := (blk_cell BK157.out 3).trans rfl; have hfz106_0 := blk_frozen BK157.out 0; have hfz106_1 := blk_frozen BK157.out 1; have hfz106_2 := blk_frozen BK157.out 2; have hfz106_3 := blk_frozen BK157.out 3; have hcz107_0 : w105.cell? ⟨gb156, 0, none⟩ = some (.int .i64 0) := (blk_cell BK156.out 0).trans rfl; have hcz107_1 : w105.cell? ⟨gb156, 1, none⟩ = some (.int .u32 0) := (blk_cell BK156.out 1).trans rfl; have hcz107_2 : w105.cell? ⟨gb156, 2, none⟩ = some (.int .u16 0) := (blk_cell BK156.out 2).trans rfl; have hcz107_3 : w105.cell? ⟨gb156, 3, none⟩ = some (.int .u32 0) := (blk_cell BK156.out 3).trans rfl; have hfz107_0 := blk_frozen BK156.out 0; have hfz107_1 := blk_frozen BK156.out 1; have hfz107_2 := blk_frozen BK156.out 2; have hfz107_3 := blk_frozen BK156.out 3))
                                  refine bodyPost_ret (results_ct rfl _ _ gb156 25 #[.int .i64 4, .int .u32 ((t166) % 4294967296), .int .u16 0, .int .u32 0] (0, 0) _ rfl (by (with_reducible repeat (first | refine blk_drewN ?_ _ | refine blk_drew ?_ | refine blk_alloc ?_ _)); refine blk_put (cs := #[.int .i64 4, .int .u32 ((t166) % 4294967296), .int .u16 0, .int .u32 0]) ?_ 3 _ rfl; (with_reducible repeat (first | refine blk_drewN ?_ _ | refine blk_drew ?_ | refine blk_alloc ?_ _)); refine blk_put (cs := #[.int .i64 4, .int .u32 ((t166) % 4294967296), .int .u16 0, .int .u32 0]) ?_ 2 _ rfl; (with_reducible repeat (first | refine blk_drewN ?_ _ | refine blk_drew ?_ | refine blk_alloc ?_ _)); refine blk_put (cs := #[.int .i64 4, .int .u32 0, .int .u16 0, .int .u32 0]) ?_ 1 _ rfl; (with_reducible repeat (first | refine blk_drewN ?_ _ | refine blk_drew ?_ | refine blk_alloc ?_ _)); refine blk_put (cs := #[.int .i64 0, .int .u32 0, .int .u16 0, .int .u32 0]) ?_ 0 _ rfl; (with_reducible repeat (first | refine blk_drewN ?_ _ | refine blk_drew ?_ | refine blk_alloc ?_ _)); exact BK156.out) Try.underlying25 rfl (by kernel_rfl)) rfl ?_
                                  exact ⟨by first | rfl | (simp [errW_none, errW_some] <;> rfl) | (simp [*, errW_none, errW_some] <;> rfl), by repeat (first | (with_reducible first | exact HB.out | apply below_alloc | apply pw_below_drewN | apply below_drew1 | refine below_set ?_ GE156.out | refine below_set ?_ GE157.out) | exact HB.out)⟩
                                · replace c102 := Bool.eq_false_iff.mpr c102
                                  subst c102
                                  have H1 : (some (0, 0, 0, 0, 100)) = some (r1, r2, r3, r4, r5) := by rw [if_neg (show ¬ (false = true) by decide)] at H; exact H
                                  clear H
                                  have H := H1
                                  clear H1
                                  simp only [Option.some.injEq, Prod.mk.injEq] at H
                                  obtain ⟨rfl, rfl, rfl, rfl, rfl⟩ := H
                                  go_wp2_with (first | ((with_reducible refine gate_callee (f := 22) rfl ?_); refine goesL_ (some 69) rfl rfl Try.func22 (by kernel_rfl) rfl #[.string (a0.extract 1 5)] rfl (by (try simp only [List.map_toArray, List.map_cons, List.map_nil]); first | done | rfl | (simp only [List.length_drop, List.length_take]; rfl)) ?_; (with_reducible refine (bazaarref03_Get.calls kj92 (a0.extract 1 5) t166 _ A100.out).mono ?_); rintro e w' ⟨rfl, ⟨nd, rfl⟩⟩; refine ⟨_, rfl, ?_⟩; (try (rw [drewN_self wc]; generalize hq_ : World.drewN wc _ = wc; have n0_ : Aside0 (wc.heap[gb156]? = some (.cells #[.int .i64 0, .int .u32 0, .int .u16 0, .int .u32 0] 25 (0, 0))) := ⟨by rw [← hq_]; exact (by (with_reducible repeat (first | refine blk_drewN ?_ _ | refine blk_drew ?_ | refine blk_alloc ?_ _)); exact BK156.out)⟩; have n1_ : Aside0 (wc.heap[gb157]? = some (.cells #[.int .i64 0, .int .u32 0, .int .u16 0, .int .u32 0] 25 (0, 0))) := ⟨by rw [← hq_]; exact (by (with_reducible repeat (first | refine blk_drewN ?_ _ | refine blk_drew ?_ | refine blk_alloc ?_ _)); exact BK157.out)⟩; have n2_ : Aside0 (Below w.heap.size w wc) := ⟨by rw [← hq_]; exact (by repeat (first | (with_reducible first | exact HB.out | apply below_alloc | apply pw_below_drewN | apply below_drew1 | refine below_set ?_ GE156.out | refine below_set ?_ GE157.out) | exact HB.out))⟩; clear BK156 BK157 HB hq_; have BK156 := n0_; have BK157 := n1_; have HB := n2_; clear n0_ n1_ n2_)); have hnb108 := NB157_156.out; have hnc108 := NB156_157.out; have hcz109_0 : wc.cell? ⟨gb157, 0, none⟩ = some (.int .i64 0) := (blk_cell BK157.out 0).trans rfl; have hcz109_1 : wc.cell? ⟨gb157, 1, none⟩ = some (.int .u32 0) := (blk_cell BK157.out 1).trans rfl; have hcz109_2 : wc.cell? ⟨gb157, 2, none⟩ = some (.int .u16 0) := (blk_cell BK157.out 2).trans rfl; have hcz109_3 : wc.cell? ⟨gb157, 3, none⟩ = some (.int .u32 0) := (blk_cell BK157.out 3).trans rfl; have hfz109_0 := blk_frozen BK157.out 0; have hfz109_1 := blk_frozen BK157.out 1; have hfz109_2 := blk_frozen BK157.out 2; have hfz109_3 := blk_frozen BK157.out 3) | ((with_reducible refine gate_callee (f := 14) rfl ?_); refine goesL_ (some 101) rfl rfl Try.func14 (by kernel_rfl) rfl #[.agg #[.int .i64 4, .int .u32 ((t166) % 4294967296), .int .u16 0, .int .u32 0]] rfl (by (try simp only [List.map_toArray, List.map_cons, List.map_nil]); first | done | rfl | (simp only [List.length_drop, List.length_take]; rfl)) ?_; (with_reducible refine (bazaarref10_Right.calls kj92 4 ((t166) % 4294967296) 0 0 false _ A101.out).mono ?_); rintro e w110 ⟨rfl, hb⟩; refine ⟨_, rfl, ?_⟩; have n0_ := Aside0.mk (blk_below (g := gb156) (o := .cells #[.int .i64 0, .int .u32 0, .int .u16 0, .int .u32 0] 25 (0, 0)) (by (with_reducible repeat (first | refine blk_drewN ?_ _ | refine blk_drew ?_ | refine blk_alloc ?_ _)); refine blk_far ?_ NB156_157.out _; (with_reducible repeat (first | refine blk_drewN ?_ _ | refine blk_drew ?_ | refine blk_alloc ?_ _)); refine blk_far ?_ NB156_157.out _; (with_reducible repeat (first | refine blk_drewN ?_ _ | refine blk_drew ?_ | refine blk_alloc ?_ _)); refine blk_far ?_ NB156_157.out _; (with_reducible repeat (first | refine blk_drewN ?_ _ | refine blk_drew ?_ | refine blk_alloc ?_ _)); refine blk_far ?_ NB156_157.out _; (with_reducible repeat (first | refine blk_drewN ?_ _ | refine blk_drew ?_ | refine blk_alloc ?_ _)); exact BK156.out) hb); have n1_ := Aside0.mk (blk_below (g := gb157) (o := .cells #[.int .i64 4, .int .u32 ((t166) % 4294967296), .int .u16 0, .int .u32 0] 25 (0, 0)) (by (with_reducible repeat (first | refine blk_drewN ?_ _ | refine blk_drew ?_ | refine blk_alloc ?_ _)); refine blk_put (cs := #[.int .i64 4, .int .u32 ((t166) % 4294967296), .int .u16 0, .int .u32 0]) ?_ 3 _ rfl; (with_reducible repeat (first | refine blk_drewN ?_ _ | refine blk_drew ?_ | refine blk_alloc ?_ _)); refine blk_put (cs := #[.int .i64 4, .int .u32 ((t166) % 4294967296), .int .u16 0, .int .u32 0]) ?_ 2 _ rfl; (with_reducible repeat (first | refine blk_drewN ?_ _ | refine blk_drew ?_ | refine blk_alloc ?_ _)); refine blk_put (cs := #[.int .i64 4, .int .u32 0, .int .u16 0, .int .u32 0]) ?_ 1 _ rfl; (with_reducible repeat (first | refine blk_drewN ?_ _ | refine blk_drew ?_ | refine blk_alloc ?_ _)); refine blk_put (cs := #[.int .i64 0, .int .u32 0, .int .u16 0, .int .u32 0]) ?_ 0 _ rfl; (with_reducible repeat (first | refine blk_drewN ?_ _ | refine blk_drew ?_ | refine blk_alloc ?_ _)); exact BK157.out) hb); have n2_ := Aside0.mk (below_step (by repeat (first | (with_reducible first | exact HB.out | apply below_alloc | apply pw_below_drewN | apply below_drew1 | refine below_set ?_ GE156.out | refine below_set ?_ GE157.out) | exact HB.out)) hb); clear BK156; clear BK157; clear HB; have BK156 := n0_; have BK157 := n1_; have HB := n2_; clear n0_ n1_ n2_; (try clear hb); (try clear hb2); (try clear hk); (try clear hi); have hcz111_0 : w110.cell? ⟨gb156, 0, none⟩ = some (.int .i64 0) := (blk_cell BK156.out 0).trans rfl; have hcz111_1 : w110.cell? ⟨gb156, 1, none⟩ = some (.int .u32 0) := (blk_cell BK156.out 1).trans rfl; have hcz111_2 : w110.cell? ⟨gb156, 2, none⟩ = some (.int .u16 0) := (blk_cell BK156.out 2).trans rfl; have hcz111_3 : w110.cell? ⟨gb156, 3, none⟩ = some (.int .u32 0) := (blk_cell BK156.out 3).trans rfl; have hfz111_0 := blk_frozen BK156.out 0; have hfz111_1 := blk_frozen BK156.out 1; have hfz111_2 := blk_frozen BK156.out 2; have hfz111_3 := blk_frozen BK156.out 3))
                                  refine bodyPost_ret (results_ct rfl _ _ gb156 25 #[.int .i64 0, .int .u32 0, .int .u16 0, .int .u32 0] (0, 0) _ rfl (by (with_reducible repeat (first | refine blk_drewN ?_ _ | refine blk_drew ?_ | refine blk_alloc ?_ _)); refine blk_put (cs := #[.int .i64 0, .int .u32 0, .int .u16 0, .int .u32 0]) ?_ 3 _ rfl; (with_reducible repeat (first | refine blk_drewN ?_ _ | refine blk_drew ?_ | refine blk_alloc ?_ _)); refine blk_put (cs := #[.int .i64 0, .int .u32 0, .int .u16 0, .int .u32 0]) ?_ 2 _ rfl; (with_reducible repeat (first | refine blk_drewN ?_ _ | refine blk_drew ?_ | refine blk_alloc ?_ _)); refine blk_put (cs := #[.int .i64 0, .int .u32 0, .int .u16 0, .int .u32 0]) ?_ 1 _ rfl; (with_reducible repeat (first | refine blk_drewN ?_ _ | refine blk_drew ?_ | refine blk_alloc ?_ _)); refine blk_put (cs := #[.int .i64 0, .int .u32 0, .int .u16 0, .int .u32 0]) ?_ 0 _ rfl; (with_reducible repeat (first | refine blk_drewN ?_ _ | refine blk_drew ?_ | refine blk_alloc ?_ _)); exact BK156.out) Try.underlying25 rfl (by kernel_rfl)) rfl ?_
                                  exact ⟨by first | rfl | (simp [errW_none, errW_some] <;> rfl) | (simp [*, errW_none, errW_some] <;> rfl), by repeat (first | (with_reducible first | exact HB.out | apply below_alloc | apply pw_below_drewN | apply below_drew1 | refine below_set ?_ GE156.out | refine below_set ?_ GE157.out) | exact HB.out)⟩
                              · rw [if_neg c99] at H
                                exact absurd H (by simp)
                            · rw [if_neg c98] at H
                              exact absurd H (by simp)
                          · replace c97 := Bool.eq_false_iff.mpr c97
                            subst c97
                            have H1 : (if 0 < (a0.size : Int) then (if (bt a0 0) = 110 then (bazaarref10_Parse.j4 kj92 a0 (a0.size : Int) ((a0.size : Int) == 2) 0 0 0 0) else (bazaarref10_Parse.j4 kj92 a0 (a0.size : Int) false 0 0 0 0)) else (none)) = some (r1, r2, r3, r4, r5) := by rw [if_neg (show ¬ (false = true) by decide)] at H; exact H
                            clear H
                            have H := H1
                            clear H1
                            have HC112 := Aside0.mk H
                            clear H
                            go_upto_region 13 with (fail)
                            go_cut [72] (fun v72 wc => ∃ (kq : Nat) (x72_111 : Bool), v72 = .bool x72_111 ∧ Aside0 (bazaarref10_Parse.j4 kq a0 (a0.size : Int) x72_111 0 0 0 0 = some (r1, r2, r3, r4, r5)) ∧ Aside0 (kq ≤ kj92) ∧ Aside0 (wc.heap[gb156]? = some (.cells #[.int .i64 0, .int .u32 0, .int .u16 0, .int .u32 0] 25 (0, 0))) ∧ Aside0 (wc.heap[gb157]? = some (.cells #[.int .i64 0, .int .u32 0, .int .u16 0, .int .u32 0] 25 (0, 0))) ∧ Aside0 (Below w.heap.size w wc))
                            case first =>
                              have H := HC112.out
                              clear HC112
                              by_cases c113 : 0 < (a0.size : Int)
                              · rw [if_pos c113] at H
                                have c113b0 : decide (0 < (a0.size : Int)) = true := decide_eq_true c113
                                have c113b1 : decide (0 < a0.size) = true := decide_eq_true (by omega)
                                clear c113
                                (first | rw [c113b0] | (simp only [i64_w, i32_w]; rw [c113b0]) | skip)
                                by_cases c115 : (bt a0 0) = 110
                                · rw [if_pos c115] at H
                                  have c115b0 : ((bt a0 0) == 110) = true := beq_iff_eq.mpr c115
                                  have c115b1 : ((bt a0 0) != 110) = false := bne_eq_false_iff_eq.mpr c115
                                  clear c115
                                  have H' := Aside0.mk H
                                  clear H
                                  have p114 : 0 ≤ (0 : Int) := (by omega)
                                  have q114 : 0 < a0.size := (by have : (0 : Int) < (a0.size : Int) := of_decide_eq_true (by first | (with_reducible assumption) | assumption); omega)
                                  have hx114 : ∀ h : 0 < a0.size, ((a0[0]'h).toNat : Int) = bt a0 0 := bt_at a0 0
                                  clear p114
                                  have qi114 : (0 < (a0.size : Int)) = True := eq_true (of_decide_eq_true (by first | (with_reducible assumption) | assumption))
                                  replace q114 := eq_true q114
                                  go_wp2
                                  go_meet
                                  case rel => exact ⟨_, (((a0.size : Int) == 2)), (by first | rfl | (simp; done) | (simp [*]; done)), H', ⟨by have := HJ7.out; have := HJ28.out; have := HJ60.out; have := HJ92.out; first | omega | exact Nat.le_refl _⟩, ⟨by (with_reducible repeat (first | refine blk_drewN ?_ _ | refine blk_drew ?_ | refine blk_alloc ?_ _)); exact BK156.out⟩, ⟨by (with_reducible repeat (first | refine blk_drewN ?_ _ | refine blk_drew ?_ | refine blk_alloc ?_ _)); exact BK157.out⟩, ⟨by repeat (first | (with_reducible first | exact HB.out | apply below_alloc | apply pw_below_drewN | apply below_drew1 | refine below_set ?_ GE156.out | refine below_set ?_ GE157.out) | exact HB.out)⟩⟩
                                · rw [if_neg c115] at H
                                  have c115b0 : ((bt a0 0) == 110) = false := beq_eq_false_iff_ne.mpr c115
                                  have c115b1 : ((bt a0 0) != 110) = true := bne_iff_ne.mpr c115
                                  have H' := Aside0.mk H
                                  clear H
                                  have p114 : 0 ≤ (0 : Int) := (by omega)
                                  have q114 : 0 < a0.size := (by have : (0 : Int) < (a0.size : Int) := of_decide_eq_true (by first | (with_reducible assumption) | assumption); omega)
                                  have hx114 : ∀ h : 0 < a0.size, ((a0[0]'h).toNat : Int) = bt a0 0 := bt_at a0 0
                                  clear p114
                                  have qi114 : (0 < (a0.size : Int)) = True := eq_true (of_decide_eq_true (by first | (with_reducible assumption) | assumption))
                                  replace q114 := eq_true q114
                                  go_wp2
                                  go_meet
                                  case rel => exact ⟨_, (false), (by first | rfl | (simp; done) | (simp [*]; done)), H', ⟨by have := HJ7.out; have := HJ28.out; have := HJ60.out; have := HJ92.out; first | omega | exact Nat.le_refl _⟩, ⟨by (with_reducible repeat (first | refine blk_drewN ?_ _ | refine blk_drew ?_ | refine blk_alloc ?_ _)); exact BK156.out⟩, ⟨by (with_reducible repeat (first | refine blk_drewN ?_ _ | refine blk_drew ?_ | refine blk_alloc ?_ _)); exact BK157.out⟩, ⟨by repeat (first | (with_reducible first | exact HB.out | apply below_alloc | apply pw_below_drewN | apply below_drew1 | refine below_set ?_ GE156.out | refine below_set ?_ GE157.out) | exact HB.out)⟩⟩
                              · rw [if_neg c113] at H
                                exact absurd H (by simp)
                            case rest =>
                              clear HC112
                              try clear c1
                              try clear p1
                              try clear q1
                              try clear hx1
                              try clear qi1
                              try clear c2
                              try clear c2b0
                              try clear c2b1
                              try clear p2
                              try clear c3
                              try clear p3
                              try clear q3
                              try clear hx3
                              try clear qi3
                              try clear c4
                              try clear c5
                              try clear c6
                              try clear p6
                              try clear q6
                              try clear hx6
                              try clear qi6
                              try clear c7
                              try clear c8
                              try clear c9
                              try clear p9
                              try clear q9
                              try clear hx9
                              try clear qi9
                              try clear c10
                              try clear c11
                              try clear c11b0
                              try clear c11b1
                              try clear p11
                              try clear q11
                              try clear hx11
                              try clear qi11
                              try clear c12
                              try clear p12
                              try clear q12
                              try clear hx12
                              try clear qi12
                              try clear c13
                              try clear c13b0
                              try clear c13b1
                              try clear c14
                              try clear c15
                              try clear c15b0
                              try clear c15b1
                              try clear c16
                              try clear c16b0
                              try clear c16b1
                              try clear c19
                              try clear c20
                              try clear c22
                              try clear c25
                              try clear c30
                              try clear c30b0
                              try clear c30b1
                              try clear p31
                              try clear q31
                              try clear hx31
                              try clear qi31
                              try clear c32
                              try clear c32b0
                              try clear c32b1
                              try clear c33
                              try clear c34
                              try clear c34b0
                              try clear c34b1
                              try clear c35
                              try clear c35b0
                              try clear c35b1
                              try clear c37
                              try clear c37b0
                              try clear c37b1
                              try clear c38
                              try clear c38b0
                              try clear c38b1
                              try clear c41
                              try clear c47
                              try clear c57
                              try clear c62
                              try clear c62b0
                              try clear c62b1
                              try clear p63
                              try clear q63
                              try clear hx63
                              try clear qi63
                              try clear c64
                              try clear c64b0
                              try clear c64b1
                              try clear c65
                              try clear c66
                              try clear c66b0
                              try clear c66b1
                              try clear c67
                              try clear c67b0
                              try clear c67b1
                              try clear c69
                              try clear c69b0
                              try clear c69b1
                              try clear c70
                              try clear c70b0
                              try clear c70b1
                              try clear c73
                              try clear c79
                              try clear c89
                              try clear c94
                              try clear c94b0
                              try clear c94b1
                              try clear p95
                              try clear q95
                              try clear hx95
                              try clear qi95
                              try clear c96
                              try clear c96b0
                              try clear c96b1
                              try clear c97
                              try clear c98
                              try clear c98b0
                              try clear c98b1
                              try clear c99
                              try clear c99b0
                              try clear c99b1
                              try clear c102
                              try clear c103
                              try clear c108
                              try clear c113
                              try clear c113b0
                              try clear c113b1
                              try clear p114
                              try clear q114
                              try clear hx114
                              try clear qi114
                              try clear c115
                              try clear c115b0
                              try clear c115b1
                              try clear hcz104_0
                              try clear hcz104_1
                              try clear hcz104_2
                              try clear hcz104_3
                              try clear hcz106_0
                              try clear hcz106_1
                              try clear hcz106_2
                              try clear hcz106_3
                              try clear hcz107_0
                              try clear hcz107_1
                              try clear hcz107_2
                              try clear hcz107_3
                              try clear hcz109_0
                              try clear hcz109_1
                              try clear hcz109_2
                              try clear hcz109_3
                              try clear hcz111_0
                              try clear hcz111_1
                              try clear hcz111_2
                              try clear hcz111_3
                              try clear hcz21_0
                              try clear hcz21_1
                              try clear hcz21_2
                              try clear hcz21_3
                              try clear hcz23_0
                              try clear hcz23_1
                              try clear hcz23_2
                              try clear hcz23_3
                              try clear hcz24_0
                              try clear hcz24_1
                              try clear hcz24_2
                              try clear hcz24_3
                              try clear hcz26_0
                              try clear hcz26_1
                              try clear hcz26_2
                              try clear hcz26_3
                              try clear hcz28_0
                              try clear hcz28_1
                              try clear hcz28_2
                              try clear hcz28_3
                              try clear hcz48_0
                              try clear hcz48_1
                              try clear hcz48_2
                              try clear hcz48_3
                              try clear hcz50_0
                              try clear hcz50_1
                              try clear hcz50_2
                              try clear hcz50_3
                              try clear hcz51_0
                              try clear hcz51_1
                              try clear hcz51_2
                              try clear hcz51_3
                              try clear hcz58_0
                              try clear hcz58_1
                              try clear hcz58_2
                              try clear hcz58_3
                              try clear hcz60_0
                              try clear hcz60_1
                              try clear hcz60_2
                              try clear hcz60_3
                              try clear hcz6_0
                              try clear hcz6_1
                              try clear hcz6_2
                              try clear hcz6_3
                              try clear hcz7_0
                              try clear hcz7_1
                              try clear hcz7_2
                              try clear hcz7_3
                              try clear hcz80_0
                              try clear hcz80_1
                              try clear hcz80_2
                              try clear hcz80_3
                              try clear hcz82_0
                              try clear hcz82_1
                              try clear hcz82_2
                              try clear hcz82_3
                              try clear hcz83_0
                              try clear hcz83_1
                              try clear hcz83_2
                              try clear hcz83_3
                              try clear hcz90_0
                              try clear hcz90_1
                              try clear hcz90_2
                              try clear hcz90_3
                              try clear hcz92_0
                              try clear hcz92_1
                              try clear hcz92_2
                              try clear hcz92_3
                              try clear hfz104_0
                              try clear hfz104_1
                              try clear hfz104_2
                              try clear hfz104_3
                              try clear hfz106_0
                              try clear hfz106_1
                              try clear hfz106_2
                              try clear hfz106_3
                              try clear hfz107_0
                              try clear hfz107_1
                              try clear hfz107_2
                              try clear hfz107_3
                              try clear hfz109_0
                              try clear hfz109_1
                              try clear hfz109_2
                              try clear hfz109_3
                              try clear hfz111_0
                              try clear hfz111_1
                              try clear hfz111_2
                              try clear hfz111_3
                              try clear hfz21_0
                              try clear hfz21_1
                              try clear hfz21_2
                              try clear hfz21_3
                              try clear hfz23_0
                              try clear hfz23_1
                              try clear hfz23_2
                              try clear hfz23_3
                              try clear hfz24_0
                              try clear hfz24_1
                              try clear hfz24_2
                              try clear hfz24_3
                              try clear hfz26_0
                              try clear hfz26_1
                              try clear hfz26_2
                              try clear hfz26_3
                              try clear hfz28_0
                              try clear hfz28_1
                              try clear hfz28_2
                              try clear hfz28_3
                              try clear hfz48_0
                              try clear hfz48_1
                              try clear hfz48_2
                              try clear hfz48_3
                              try clear hfz50_0
                              try clear hfz50_1
                              try clear hfz50_2
                              try clear hfz50_3
                              try clear hfz51_0
                              try clear hfz51_1
                              try clear hfz51_2
                              try clear hfz51_3
                              try clear hfz58_0
                              try clear hfz58_1
                              try clear hfz58_2
                              try clear hfz58_3
                              try clear hfz60_0
                              try clear hfz60_1
                              try clear hfz60_2
                              try clear hfz60_3
                              try clear hfz6_0
                              try clear hfz6_1
                              try clear hfz6_2
                              try clear hfz6_3
                              try clear hfz7_0
                              try clear hfz7_1
                              try clear hfz7_2
                              try clear hfz7_3
                              try clear hfz80_0
                              try clear hfz80_1
                              try clear hfz80_2
                              try clear hfz80_3
                              try clear hfz82_0
                              try clear hfz82_1
                              try clear hfz82_2
                              try clear hfz82_3
                              try clear hfz83_0
                              try clear hfz83_1
                              try clear hfz83_2
                              try clear hfz83_3
                              try clear hfz90_0
                              try clear hfz90_1
                              try clear hfz90_2
                              try clear hfz90_3
                              try clear hfz92_0
                              try clear hfz92_1
                              try clear hfz92_2
                              try clear hfz92_3
                              try clear p1
                              try clear p114
                              try clear p12
                              try clear p2
                              try clear p3
                              try clear p31
                              try clear p6
                              try clear p63
                              try clear p9
                              try clear p95
                              try clear q1
                              try clear q114
                              try clear q12
                              try clear q3
                              try clear q31
                              try clear q6
                              try clear q63
                              try clear q9
                              try clear q95
                              obtain ⟨kq, x72_111, rfl, HA, HJ111, BK156, BK157, HB⟩ := hcut
                              cases kq with
                              | zero => exact absurd HA.out (by simp [bazaarref10_Parse.j4])
                              | succ kj111 =>
                                have H := HA.out
                                clear HA
                                simp only [bazaarref10_Parse.j4] at H
                                by_cases c116 : x72_111 = true
                                · subst c116
                                  have H1 : (if 1 < (a0.size : Int) then ((bazaarref10_Right.f kj111 5 ((bt a0 1) % 4294967296) 0 0).bind fun t168 => (if t168 = true then (some (5, (bt a0 1) % 4294967296, 0, 0, 0)) else (some (0, 0, 0, 0, 100)))) else (none)) = some (r1, r2, r3, r4, r5) := by rw [if_pos rfl] at H; exact H
                                  clear H
                                  have H := H1
                                  clear H1
                                  by_cases c117 : 1 < (a0.size : Int)
                                  · rw [if_pos c117] at H
                                    have c117b0 : decide (1 < (a0.size : Int)) = true := decide_eq_true c117
                                    have c117b1 : decide (1 < a0.size) = true := decide_eq_true (by omega)
                                    clear c117
                                    replace H := Option.bind_eq_some_iff.mp H
                                    obtain ⟨t168, A1190, H⟩ := H
                                    replace H : (if t168 = true then (some (5, (bt a0 1) % 4294967296, 0, 0, 0)) else (some (0, 0, 0, 0, 100))) = some (r1, r2, r3, r4, r5) := H
                                    have A119 := Aside0.mk A1190
                                    clear A1190
                                    by_cases c120 : t168 = true
                                    · subst c120
                                      have H1 : (some (5, (bt a0 1) % 4294967296, 0, 0, 0)) = some (r1, r2, r3, r4, r5) := by rw [if_pos rfl] at H; exact H
                                      clear H
                                      have H := H1
                                      clear H1
                                      simp only [Option.some.injEq, Prod.mk.injEq] at H
                                      obtain ⟨rfl, rfl, rfl, rfl, rfl⟩ := H
                                      have p118 : 0 ≤ (1 : Int) := (by omega)
                                      have q118 : 1 < a0.size := (by have : (1 : Int) < (a0.size : Int) := of_decide_eq_true (by first | (with_reducible assumption) | assumption); omega)
                                      have hx118 : ∀ h : 1 < a0.size, ((a0[1]'h).toNat : Int) = bt a0 1 := bt_at a0 1
                                      clear p118
                                      have qi118 : (1 < (a0.size : Int)) = True := eq_true (of_decide_eq_true (by first | (with_reducible assumption) | assumption))
                                      replace q118 := eq_true q118
                                      have hnb121 := NB157_156.out
                                      have hnc121 := NB156_157.out
                                      have hcz122_0 : wc.cell? ⟨gb157, 0, none⟩ = some (.int .i64 0) := (blk_cell BK157.out 0).trans rfl
                                      have hcz122_1 : wc.cell? ⟨gb157, 1, none⟩ = some (.int .u32 0) := (blk_cell BK157.out 1).trans rfl
                                      have hcz122_2 : wc.cell? ⟨gb157, 2, none⟩ = some (.int .u16 0) := (blk_cell BK157.out 2).trans rfl
                                      have hcz122_3 : wc.cell? ⟨gb157, 3, none⟩ = some (.int .u32 0) := (blk_cell BK157.out 3).trans rfl
                                      have hfz122_0 := blk_frozen BK157.out 0
                                      have hfz122_1 := blk_frozen BK157.out 1
                                      have hfz122_2 := blk_frozen BK157.out 2
                                      have hfz122_3 := blk_frozen BK157.out 3
                                      go_wp2_with (first | ((with_reducible refine gate_callee (f := 14) rfl ?_); refine goesL_ (some 101) rfl rfl Try.func14 (by kernel_rfl) rfl #[.agg #[.int .i64 5, .int .u32 ((bt a0 1) % 4294967296), .int .u16 0, .int .u32 0]] rfl (by (try simp only [List.map_toArray, List.map_cons, List.map_nil]); first | done | rfl | (simp only [List.length_drop, List.length_take]; rfl)) ?_; (with_reducible refine (bazaarref10_Right.calls kj111 5 ((bt a0 1) % 4294967296) 0 0 true _ A119.out).mono ?_); rintro e w123 ⟨rfl, hb⟩; refine ⟨_, rfl, ?_⟩; have n0_ := Aside0.mk (blk_below (g := gb156) (o := .cells #[.int .i64 0, .int .u32 0, .int .u16 0, .int .u32 0] 25 (0, 0)) (by (with_reducible repeat (first | refine blk_drewN ?_ _ | refine blk_drew ?_ | refine blk_alloc ?_ _)); refine blk_far ?_ NB156_157.out _; (with_reducible repeat (first | refine blk_drewN ?_ _ | refine blk_drew ?_ | refine blk_alloc ?_ _)); refine blk_far ?_ NB156_157.out _; (with_reducible repeat (first | refine blk_drewN ?_ _ | refine blk_drew ?_ | refine blk_alloc ?_ _)); refine blk_far ?_ NB156_157.out _; (with_reducible repeat (first | refine blk_drewN ?_ _ | refine blk_drew ?_ | refine blk_alloc ?_ _)); refine blk_far ?_ NB156_157.out _; (with_reducible repeat (first | refine blk_drewN ?_ _ | refine blk_drew ?_ | refine blk_alloc ?_ _)); exact BK156.out) hb); have n1_ := Aside0.mk (blk_below (g := gb157) (o := .cells #[.int .i64 5, .int .u32 ((bt a0 1) % 4294967296), .int .u16 0, .int .u32 0] 25 (0, 0)) (by (with_reducible repeat (first | refine blk_drewN ?_ _ | refine blk_drew ?_ | refine blk_alloc ?_ _)); refine blk_put (cs := #[.int .i64 5, .int .u32 ((bt a0 1) % 4294967296), .int .u16 0, .int .u32 0]) ?_ 3 _ rfl; (with_reducible repeat (first | refine blk_drewN ?_ _ | refine blk_drew ?_ | refine blk_alloc ?_ _)); refine blk_put (cs := #[.int .i64 5, .int .u32 ((bt a0 1) % 4294967296), .int .u16 0, .int .u32 0]) ?_ 2 _ rfl; (with_reducible repeat (first | refine blk_drewN ?_ _ | refine blk_drew ?_ | refine blk_alloc ?_ _)); refine blk_put (cs := #[.int .i64 5, .int .u32 0, .int .u16 0, .int .u32 0]) ?_ 1 _ rfl; (with_reducible repeat (first | refine blk_drewN ?_ _ | refine blk_drew ?_ | refine blk_alloc ?_ _)); refine blk_put (cs := #[.int .i64 0, .int .u32 0, .int .u16 0, .int .u32 0]) ?_ 0 _ rfl; (with_reducible repeat (first | refine blk_drewN ?_ _ | refine blk_drew ?_ | refine blk_alloc ?_ _)); exact BK157.out) hb); have n2_ := Aside0.mk (below_step (by repeat (first | (with_reducible first | exact HB.out | apply below_alloc | apply pw_below_drewN | apply below_drew1 | refine below_set ?_ GE156.out | refine below_set ?_ GE157.out) | exact HB.out)) hb); clear BK156; clear BK157; clear HB; have BK156 := n0_; have BK157 := n1_; have HB := n2_; clear n0_ n1_ n2_; (try clear hb); (try clear hb2); (try clear hk); (try clear hi); have hcz124_0 : w123.cell? ⟨gb157, 0, none⟩ = some (.int .i64 5) := (blk_cell BK157.out 0).trans rfl; have hcz124_1 : w123.cell? ⟨gb157, 1, none⟩ = some (.int .u32 ((bt a0 1) % 4294967296)) := (blk_cell BK157.out 1).trans rfl; have hcz124_2 : w123.cell? ⟨gb157, 2, none⟩ = some (.int .u16 0) := (blk_cell BK157.out 2).trans rfl; have hcz124_3 : w123.cell? ⟨gb157, 3, none⟩ = some (.int .u32 0) := (blk_cell BK157.out 3).trans rfl; have hfz124_0 := blk_frozen BK157.out 0; have hfz124_1 := blk_frozen BK157.out 1; have hfz124_2 := blk_frozen BK157.out 2; have hfz124_3 := blk_frozen BK157.out 3; have hcz125_0 : w123.cell? ⟨gb156, 0, none⟩ = some (.int .i64 0) := (blk_cell BK156.out 0).trans rfl; have hcz125_1 : w123.cell? ⟨gb156, 1, none⟩ = some (.int .u32 0) := (blk_cell BK156.out 1).trans rfl; have hcz125_2 : w123.cell? ⟨gb156, 2, none⟩ = some (.int .u16 0) := (blk_cell BK156.out 2).trans rfl; have hcz125_3 : w123.cell? ⟨gb156, 3, none⟩ = some (.int .u32 0) := (blk_cell BK156.out 3).trans rfl; have hfz125_0 := blk_frozen BK156.out 0; have hfz125_1 := blk_frozen BK156.out 1; have hfz125_2 := blk_frozen BK156.out 2; have hfz125_3 := blk_frozen BK156.out 3))
                                      refine bodyPost_ret (results_ct rfl _ _ gb156 25 #[.int .i64 5, .int .u32 ((bt a0 1) % 4294967296), .int .u16 0, .int .u32 0] (0, 0) _ rfl (by (with_reducible repeat (first | refine blk_drewN ?_ _ | refine blk_drew ?_ | refine blk_alloc ?_ _)); refine blk_put (cs := #[.int .i64 5, .int .u32 ((bt a0 1) % 4294967296), .int .u16 0, .int .u32 0]) ?_ 3 _ rfl; (with_reducible repeat (first | refine blk_drewN ?_ _ | refine blk_drew ?_ | refine blk_alloc ?_ _)); refine blk_put (cs := #[.int .i64 5, .int .u32 ((bt a0 1) % 4294967296), .int .u16 0, .int .u32 0]) ?_ 2 _ rfl; (with_reducible repeat (first | refine blk_drewN ?_ _ | refine blk_drew ?_ | refine blk_alloc ?_ _)); refine blk_put (cs := #[.int .i64 5, .int .u32 0, .int .u16 0, .int .u32 0]) ?_ 1 _ rfl; (with_reducible repeat (first | refine blk_drewN ?_ _ | refine blk_drew ?_ | refine blk_alloc ?_ _)); refine blk_put (cs := #[.int .i64 0, .int .u32 0, .int .u16 0, .int .u32 0]) ?_ 0 _ rfl; (with_reducible repeat (first | refine blk_drewN ?_ _ | refine blk_drew ?_ | refine blk_alloc ?_ _)); exact BK156.out) Try.underlying25 rfl (by kernel_rfl)) rfl ?_
                                      exact ⟨by first | rfl | (simp [errW_none, errW_some] <;> rfl) | (simp [*, errW_none, errW_some] <;> rfl), by repeat (first | (with_reducible first | exact HB.out | apply below_alloc | apply pw_below_drewN | apply below_drew1 | refine below_set ?_ GE156.out | refine below_set ?_ GE157.out) | exact HB.out)⟩
                                    · replace c120 := Bool.eq_false_iff.mpr c120
                                      subst c120
                                      have H1 : (some (0, 0, 0, 0, 100)) = some (r1, r2, r3, r4, r5) := by rw [if_neg (show ¬ (false = true) by decide)] at H; exact H
                                      clear H
                                      have H := H1
                                      clear H1
                                      simp only [Option.some.injEq, Prod.mk.injEq] at H
                                      obtain ⟨rfl, rfl, rfl, rfl, rfl⟩ := H
                                      have p118 : 0 ≤ (1 : Int) := (by omega)
                                      have q118 : 1 < a0.size := (by have : (1 : Int) < (a0.size : Int) := of_decide_eq_true (by first | (with_reducible assumption) | assumption); omega)
                                      have hx118 : ∀ h : 1 < a0.size, ((a0[1]'h).toNat : Int) = bt a0 1 := bt_at a0 1
                                      clear p118
                                      have qi118 : (1 < (a0.size : Int)) = True := eq_true (of_decide_eq_true (by first | (with_reducible assumption) | assumption))
                                      replace q118 := eq_true q118
                                      have hnb126 := NB157_156.out
                                      have hnc126 := NB156_157.out
                                      have hcz127_0 : wc.cell? ⟨gb157, 0, none⟩ = some (.int .i64 0) := (blk_cell BK157.out 0).trans rfl
                                      have hcz127_1 : wc.cell? ⟨gb157, 1, none⟩ = some (.int .u32 0) := (blk_cell BK157.out 1).trans rfl
                                      have hcz127_2 : wc.cell? ⟨gb157, 2, none⟩ = some (.int .u16 0) := (blk_cell BK157.out 2).trans rfl
                                      have hcz127_3 : wc.cell? ⟨gb157, 3, none⟩ = some (.int .u32 0) := (blk_cell BK157.out 3).trans rfl
                                      have hfz127_0 := blk_frozen BK157.out 0
                                      have hfz127_1 := blk_frozen BK157.out 1
                                      have hfz127_2 := blk_frozen BK157.out 2
                                      have hfz127_3 := blk_frozen BK157.out 3
                                      go_wp2_with (first | ((with_reducible refine gate_callee (f := 14) rfl ?_); refine goesL_ (some 101) rfl rfl Try.func14 (by kernel_rfl) rfl #[.agg #[.int .i64 5, .int .u32 ((bt a0 1) % 4294967296), .int .u16 0, .int .u32 0]] rfl (by (try simp only [List.map_toArray, List.map_cons, List.map_nil]); first | done | rfl | (simp only [List.length_drop, List.length_take]; rfl)) ?_; (with_reducible refine (bazaarref10_Right.calls kj111 5 ((bt a0 1) % 4294967296) 0 0 false _ A119.out).mono ?_); rintro e w128 ⟨rfl, hb⟩; refine ⟨_, rfl, ?_⟩; have n0_ := Aside0.mk (blk_below (g := gb156) (o := .cells #[.int .i64 0, .int .u32 0, .int .u16 0, .int .u32 0] 25 (0, 0)) (by (with_reducible repeat (first | refine blk_drewN ?_ _ | refine blk_drew ?_ | refine blk_alloc ?_ _)); refine blk_far ?_ NB156_157.out _; (with_reducible repeat (first | refine blk_drewN ?_ _ | refine blk_drew ?_ | refine blk_alloc ?_ _)); refine blk_far ?_ NB156_157.out _; (with_reducible repeat (first | refine blk_drewN ?_ _ | refine blk_drew ?_ | refine blk_alloc ?_ _)); refine blk_far ?_ NB156_157.out _; (with_reducible repeat (first | refine blk_drewN ?_ _ | refine blk_drew ?_ | refine blk_alloc ?_ _)); refine blk_far ?_ NB156_157.out _; (with_reducible repeat (first | refine blk_drewN ?_ _ | refine blk_drew ?_ | refine blk_alloc ?_ _)); exact BK156.out) hb); have n1_ := Aside0.mk (blk_below (g := gb157) (o := .cells #[.int .i64 5, .int .u32 ((bt a0 1) % 4294967296), .int .u16 0, .int .u32 0] 25 (0, 0)) (by (with_reducible repeat (first | refine blk_drewN ?_ _ | refine blk_drew ?_ | refine blk_alloc ?_ _)); refine blk_put (cs := #[.int .i64 5, .int .u32 ((bt a0 1) % 4294967296), .int .u16 0, .int .u32 0]) ?_ 3 _ rfl; (with_reducible repeat (first | refine blk_drewN ?_ _ | refine blk_drew ?_ | refine blk_alloc ?_ _)); refine blk_put (cs := #[.int .i64 5, .int .u32 ((bt a0 1) % 4294967296), .int .u16 0, .int .u32 0]) ?_ 2 _ rfl; (with_reducible repeat (first | refine blk_drewN ?_ _ | refine blk_drew ?_ | refine blk_alloc ?_ _)); refine blk_put (cs := #[.int .i64 5, .int .u32 0, .int .u16 0, .int .u32 0]) ?_ 1 _ rfl; (with_reducible repeat (first | refine blk_drewN ?_ _ | refine blk_drew ?_ | refine blk_alloc ?_ _)); refine blk_put (cs := #[.int .i64 0, .int .u32 0, .int .u16 0, .int .u32 0]) ?_ 0 _ rfl; (with_reducible repeat (first | refine blk_drewN ?_ _ | refine blk_drew ?_ | refine blk_alloc ?_ _)); exact BK157.out) hb); have n2_ := Aside0.mk (below_step (by repeat (first | (with_reducible first | exact HB.out | apply below_alloc | apply pw_below_drewN | apply below_drew1 | refine below_set ?_ GE156.out | refine below_set ?_ GE157.out) | exact HB.out)) hb); clear BK156; clear BK157; clear HB; have BK156 := n0_; have BK157 := n1_; have HB := n2_; clear n0_ n1_ n2_; (try clear hb); (try clear hb2); (try clear hk); (try clear hi); have hcz129_0 : w128.cell? ⟨gb156, 0, none⟩ = some (.int .i64 0) := (blk_cell BK156.out 0).trans rfl; have hcz129_1 : w128.cell? ⟨gb156, 1, none⟩ = some (.int .u32 0) := (blk_cell BK156.out 1).trans rfl; have hcz129_2 : w128.cell? ⟨gb156, 2, none⟩ = some (.int .u16 0) := (blk_cell BK156.out 2).trans rfl; have hcz129_3 : w128.cell? ⟨gb156, 3, none⟩ = some (.int .u32 0) := (blk_cell BK156.out 3).trans rfl; have hfz129_0 := blk_frozen BK156.out 0; have hfz129_1 := blk_frozen BK156.out 1; have hfz129_2 := blk_frozen BK156.out 2; have hfz129_3 := blk_frozen BK156.out 3))
                                      refine bodyPost_ret (results_ct rfl _ _ gb156 25 #[.int .i64 0, .int .u32 0, .int .u16 0, .int .u32 0] (0, 0) _ rfl (by (with_reducible repeat (first | refine blk_drewN ?_ _ | refine blk_drew ?_ | refine blk_alloc ?_ _)); refine blk_put (cs := #[.int .i64 0, .int .u32 0, .int .u16 0, .int .u32 0]) ?_ 3 _ rfl; (with_reducible repeat (first | refine blk_drewN ?_ _ | refine blk_drew ?_ | refine blk_alloc ?_ _)); refine blk_put (cs := #[.int .i64 0, .int .u32 0, .int .u16 0, .int .u32 0]) ?_ 2 _ rfl; (with_reducible repeat (first | refine blk_drewN ?_ _ | refine blk_drew ?_ | refine blk_alloc ?_ _)); refine blk_put (cs := #[.int .i64 0, .int .u32 0, .int .u16 0, .int .u32 0]) ?_ 1 _ rfl; (with_reducible repeat (first | refine blk_drewN ?_ _ | refine blk_drew ?_ | refine blk_alloc ?_ _)); refine blk_put (cs := #[.int .i64 0, .int .u32 0, .int .u16 0, .int .u32 0]) ?_ 0 _ rfl; (with_reducible repeat (first | refine blk_drewN ?_ _ | refine blk_drew ?_ | refine blk_alloc ?_ _)); exact BK156.out) Try.underlying25 rfl (by kernel_rfl)) rfl ?_
                                      exact ⟨by first | rfl | (simp [errW_none, errW_some] <;> rfl) | (simp [*, errW_none, errW_some] <;> rfl), by repeat (first | (with_reducible first | exact HB.out | apply below_alloc | apply pw_below_drewN | apply below_drew1 | refine below_set ?_ GE156.out | refine below_set ?_ GE157.out) | exact HB.out)⟩
                                  · rw [if_neg c117] at H
                                    exact absurd H (by simp)
                                · replace c116 := Bool.eq_false_iff.mpr c116
                                  subst c116
                                  have H1 : (if 0 < (a0.size : Int) then (if (bt a0 0) = 116 then (bazaarref10_Parse.j5 kj111 a0 ((a0.size : Int) == 4) 0 0 0 0) else (bazaarref10_Parse.j5 kj111 a0 false 0 0 0 0)) else (none)) = some (r1, r2, r3, r4, r5) := by rw [if_neg (show ¬ (false = true) by decide)] at H; exact H
                                  clear H
                                  have H := H1
                                  clear H1
                                  have HC130 := Aside0.mk H
                                  clear H
                                  go_upto_region 15 with (fail)
                                  go_cut [84] (fun v84 wc => ∃ (kq : Nat) (x84_129 : Bool), v84 = .bool x84_129 ∧ Aside0 (bazaarref10_Parse.j5 kq a0 x84_129 0 0 0 0 = some (r1, r2, r3, r4, r5)) ∧ Aside0 (kq ≤ kj111) ∧ Aside0 (wc.heap[gb156]? = some (.cells #[.int .i64 0, .int .u32 0, .int .u16 0, .int .u32 0] 25 (0, 0))) ∧ Aside0 (wc.heap[gb157]? = some (.cells #[.int .i64 0, .int .u32 0, .int .u16 0, .int .u32 0] 25 (0, 0))) ∧ Aside0 (Below w.heap.size w wc))
                                  case first =>
                                    have H := HC130.out
                                    clear HC130
                                    by_cases c131 : 0 < (a0.size : Int)
                                    · rw [if_pos c131] at H
                                      have c131b0 : decide (0 < (a0.size : Int)) = true := decide_eq_true c131
                                      have c131b1 : decide (0 < a0.size) = true := decide_eq_true (by omega)
                                      clear c131
                                      (first | rw [c131b0] | (simp only [i64_w, i32_w]; rw [c131b0]) | skip)
                                      by_cases c133 : (bt a0 0) = 116
                                      · rw [if_pos c133] at H
                                        have c133b0 : ((bt a0 0) == 116) = true := beq_iff_eq.mpr c133
                                        have c133b1 : ((bt a0 0) != 116) = false := bne_eq_false_iff_eq.mpr c133
                                        clear c133
                                        have H' := Aside0.mk H
                                        clear H
                                        have p132 : 0 ≤ (0 : Int) := (by omega)
                                        have q132 : 0 < a0.size := (by have : (0 : Int) < (a0.size : Int) := of_decide_eq_true (by first | (with_reducible assumption) | assumption); omega)
                                        have hx132 : ∀ h : 0 < a0.size, ((a0[0]'h).toNat : Int) = bt a0 0 := bt_at a0 0
                                        clear p132
                                        have qi132 : (0 < (a0.size : Int)) = True := eq_true (of_decide_eq_true (by first | (with_reducible assumption) | assumption))
                                        replace q132 := eq_true q132
                                        go_wp2
                                        go_meet
                                        case rel => exact ⟨_, (((a0.size : Int) == 4)), (by first | rfl | (simp; done) | (simp [*]; done)), H', ⟨by have := HJ7.out; have := HJ28.out; have := HJ60.out; have := HJ92.out; have := HJ111.out; first | omega | exact Nat.le_refl _⟩, ⟨by (with_reducible repeat (first | refine blk_drewN ?_ _ | refine blk_drew ?_ | refine blk_alloc ?_ _)); exact BK156.out⟩, ⟨by (with_reducible repeat (first | refine blk_drewN ?_ _ | refine blk_drew ?_ | refine blk_alloc ?_ _)); exact BK157.out⟩, ⟨by repeat (first | (with_reducible first | exact HB.out | apply below_alloc | apply pw_below_drewN | apply below_drew1 | refine below_set ?_ GE156.out | refine below_set ?_ GE157.out) | exact HB.out)⟩⟩
                                      · rw [if_neg c133] at H
                                        have c133b0 : ((bt a0 0) == 116) = false := beq_eq_false_iff_ne.mpr c133
                                        have c133b1 : ((bt a0 0) != 116) = true := bne_iff_ne.mpr c133
                                        have H' := Aside0.mk H
                                        clear H
                                        have p132 : 0 ≤ (0 : Int) := (by omega)
                                        have q132 : 0 < a0.size := (by have : (0 : Int) < (a0.size : Int) := of_decide_eq_true (by first | (with_reducible assumption) | assumption); omega)
                                        have hx132 : ∀ h : 0 < a0.size, ((a0[0]'h).toNat : Int) = bt a0 0 := bt_at a0 0
                                        clear p132
                                        have qi132 : (0 < (a0.size : Int)) = True := eq_true (of_decide_eq_true (by first | (with_reducible assumption) | assumption))
                                        replace q132 := eq_true q132
                                        go_wp2
                                        go_meet
                                        case rel => exact ⟨_, (false), (by first | rfl | (simp; done) | (simp [*]; done)), H', ⟨by have := HJ7.out; have := HJ28.out; have := HJ60.out; have := HJ92.out; have := HJ111.out; first | omega | exact Nat.le_refl _⟩, ⟨by (with_reducible repeat (first | refine blk_drewN ?_ _ | refine blk_drew ?_ | refine blk_alloc ?_ _)); exact BK156.out⟩, ⟨by (with_reducible repeat (first | refine blk_drewN ?_ _ | refine blk_drew ?_ | refine blk_alloc ?_ _)); exact BK157.out⟩, ⟨by repeat (first | (with_reducible first | exact HB.out | apply below_alloc | apply pw_below_drewN | apply below_drew1 | refine below_set ?_ GE156.out | refine below_set ?_ GE157.out) | exact HB.out)⟩⟩
                                    · rw [if_neg c131] at H
                                      exact absurd H (by simp)
                                  case rest =>
                                    clear HC130
                                    try clear c1
                                    try clear p1
                                    try clear q1
                                    try clear hx1
                                    try clear qi1
                                    try clear c2
                                    try clear c2b0
                                    try clear c2b1
                                    try clear p2
                                    try clear c3
                                    try clear p3
                                    try clear q3
                                    try clear hx3
                                    try clear qi3
                                    try clear c4
                                    try clear c5
                                    try clear c6
                                    try clear p6
                                    try clear q6
                                    try clear hx6
                                    try clear qi6
                                    try clear c7
                                    try clear c8
                                    try clear c9
                                    try clear p9
                                    try clear q9
                                    try clear hx9
                                    try clear qi9
                                    try clear c10
                                    try clear c11
                                    try clear c11b0
                                    try clear c11b1
                                    try clear p11
                                    try clear q11
                                    try clear hx11
                                    try clear qi11
                                    try clear c12
                                    try clear p12
                                    try clear q12
                                    try clear hx12
                                    try clear qi12
                                    try clear c13
                                    try clear c13b0
                                    try clear c13b1
                                    try clear p13
                                    try clear q13
                                    try clear hx13
                                    try clear qi13
                                    try clear c14
                                    try clear c15
                                    try clear c15b0
                                    try clear c15b1
                                    try clear c16
                                    try clear c16b0
                                    try clear c16b1
                                    try clear c19
                                    try clear c20
                                    try clear c22
                                    try clear c25
                                    try clear c30
                                    try clear c30b0
                                    try clear c30b1
                                    try clear p31
                                    try clear q31
                                    try clear hx31
                                    try clear qi31
                                    try clear c32
                                    try clear c32b0
                                    try clear c32b1
                                    try clear c33
                                    try clear c34
                                    try clear c34b0
                                    try clear c34b1
                                    try clear c35
                                    try clear c35b0
                                    try clear c35b1
                                    try clear c37
                                    try clear c37b0
                                    try clear c37b1
                                    try clear c38
                                    try clear c38b0
                                    try clear c38b1
                                    try clear c41
                                    try clear c47
                                    try clear c57
                                    try clear c62
                                    try clear c62b0
                                    try clear c62b1
                                    try clear p63
                                    try clear q63
                                    try clear hx63
                                    try clear qi63
                                    try clear c64
                                    try clear c64b0
                                    try clear c64b1
                                    try clear c65
                                    try clear c66
                                    try clear c66b0
                                    try clear c66b1
                                    try clear c67
                                    try clear c67b0
                                    try clear c67b1
                                    try clear c69
                                    try clear c69b0
                                    try clear c69b1
                                    try clear c70
                                    try clear c70b0
                                    try clear c70b1
                                    try clear c73
                                    try clear c79
                                    try clear c89
                                    try clear c94
                                    try clear c94b0
                                    try clear c94b1
                                    try clear p95
                                    try clear q95
                                    try clear hx95
                                    try clear qi95
                                    try clear c96
                                    try clear c96b0
                                    try clear c96b1
                                    try clear c97
                                    try clear c98
                                    try clear c98b0
                                    try clear c98b1
                                    try clear c99
                                    try clear c99b0
                                    try clear c99b1
                                    try clear c102
                                    try clear c103
                                    try clear c108
                                    try clear c113
                                    try clear c113b0
                                    try clear c113b1
                                    try clear p114
                                    try clear q114
                                    try clear hx114
                                    try clear qi114
                                    try clear c115
                                    try clear c115b0
                                    try clear c115b1
                                    try clear c116
                                    try clear c117
                                    try clear c117b0
                                    try clear c117b1
                                    try clear p118
                                    try clear q118
                                    try clear hx118
                                    try clear qi118
                                    try clear c120
                                    try clear c121
                                    try clear c126
                                    try clear c131
                                    try clear c131b0
                                    try clear c131b1
                                    try clear p132
                                    try clear q132
                                    try clear hx132
                                    try clear qi132
                                    try clear c133
                                    try clear c133b0
                                    try clear c133b1
                                    try clear hcz104_0
                                    try clear hcz104_1
                                    try clear hcz104_2
                                    try clear hcz104_3
                                    try clear hcz106_0
                                    try clear hcz106_1
                                    try clear hcz106_2
                                    try clear hcz106_3
                                    try clear hcz107_0
                                    try clear hcz107_1
                                    try clear hcz107_2
                                    try clear hcz107_3
                                    try clear hcz109_0
                                    try clear hcz109_1
                                    try clear hcz109_2
                                    try clear hcz109_3
                                    try clear hcz111_0
                                    try clear hcz111_1
                                    try clear hcz111_2
                                    try clear hcz111_3
                                    try clear hcz122_0
                                    try clear hcz122_1
                                    try clear hcz122_2
                                    try clear hcz122_3
                                    try clear hcz124_0
                                    try clear hcz124_1
                                    try clear hcz124_2
                                    try clear hcz124_3
                                    try clear hcz125_0
                                    try clear hcz125_1
                                    try clear hcz125_2
                                    try clear hcz125_3
                                    try clear hcz127_0
                                    try clear hcz127_1
                                    try clear hcz127_2
                                    try clear hcz127_3
                                    try clear hcz129_0
                                    try clear hcz129_1
                                    try clear hcz129_2
                                    try clear hcz129_3
                                    try clear hcz21_0
                                    try clear hcz21_1
                                    try clear hcz21_2
                                    try clear hcz21_3
                                    try clear hcz23_0
                                    try clear hcz23_1
                                    try clear hcz23_2
                                    try clear hcz23_3
                                    try clear hcz24_0
                                    try clear hcz24_1
                                    try clear hcz24_2
                                    try clear hcz24_3
                                    try clear hcz26_0
                                    try clear hcz26_1
                                    try clear hcz26_2
                                    try clear hcz26_3
                                    try clear hcz28_0
                                    try clear hcz28_1
                                    try clear hcz28_2
                                    try clear hcz28_3
                                    try clear hcz48_0
                                    try clear hcz48_1
                                    try clear hcz48_2
                                    try clear hcz48_3
                                    try clear hcz50_0
                                    try clear hcz50_1
                                    try clear hcz50_2
                                    try clear hcz50_3
                                    try clear hcz51_0
                                    try clear hcz51_1
                                    try clear hcz51_2
                                    try clear hcz51_3
                                    try clear hcz58_0
                                    try clear hcz58_1
                                    try clear hcz58_2
                                    try clear hcz58_3
                                    try clear hcz60_0
                                    try clear hcz60_1
                                    try clear hcz60_2
                                    try clear hcz60_3
                                    try clear hcz6_0
                                    try clear hcz6_1
                                    try clear hcz6_2
                                    try clear hcz6_3
                                    try clear hcz7_0
                                    try clear hcz7_1
                                    try clear hcz7_2
                                    try clear hcz7_3
                                    try clear hcz80_0
                                    try clear hcz80_1
                                    try clear hcz80_2
                                    try clear hcz80_3
                                    try clear hcz82_0
                                    try clear hcz82_1
                                    try clear hcz82_2
                                    try clear hcz82_3
                                    try clear hcz83_0
                                    try clear hcz83_1
                                    try clear hcz83_2
                                    try clear hcz83_3
                                    try clear hcz90_0
                                    try clear hcz90_1
                                    try clear hcz90_2
                                    try clear hcz90_3
                                    try clear hcz92_0
                                    try clear hcz92_1
                                    try clear hcz92_2
                                    try clear hcz92_3
                                    try clear hfz104_0
                                    try clear hfz104_1
                                    try clear hfz104_2
                                    try clear hfz104_3
                                    try clear hfz106_0
                                    try clear hfz106_1
                                    try clear hfz106_2
                                    try clear hfz106_3
                                    try clear hfz107_0
                                    try clear hfz107_1
                                    try clear hfz107_2
                                    try clear hfz107_3
                                    try clear hfz109_0
                                    try clear hfz109_1
                                    try clear hfz109_2
                                    try clear hfz109_3
                                    try clear hfz111_0
                                    try clear hfz111_1
                                    try clear hfz111_2
                                    try clear hfz111_3
                                    try clear hfz122_0
                                    try clear hfz122_1
                                    try clear hfz122_2
                                    try clear hfz122_3
                                    try clear hfz124_0
                                    try clear hfz124_1
                                    try clear hfz124_2
                                    try clear hfz124_3
                                    try clear hfz125_0
                                    try clear hfz125_1
                                    try clear hfz125_2
                                    try clear hfz125_3
                                    try clear hfz127_0
                                    try clear hfz127_1
                                    try clear hfz127_2
                                    try clear hfz127_3
                                    try clear hfz129_0
                                    try clear hfz129_1
                                    try clear hfz129_2
                                    try clear hfz129_3
                                    try clear hfz21_0
                                    try clear hfz21_1
                                    try clear hfz21_2
                                    try clear hfz21_3
                                    try clear hfz23_0
                                    try clear hfz23_1
                                    try clear hfz23_2
                                    try clear hfz23_3
                                    try clear hfz24_0
                                    try clear hfz24_1
                                    try clear hfz24_2
                                    try clear hfz24_3
                                    try clear hfz26_0
                                    try clear hfz26_1
                                    try clear hfz26_2
                                    try clear hfz26_3
                                    try clear hfz28_0
                                    try clear hfz28_1
                                    try clear hfz28_2
                                    try clear hfz28_3
                                    try clear hfz48_0
                                    try clear hfz48_1
                                    try clear hfz48_2
                                    try clear hfz48_3
                                    try clear hfz50_0
                                    try clear hfz50_1
                                    try clear hfz50_2
                                    try clear hfz50_3
                                    try clear hfz51_0
                                    try clear hfz51_1
                                    try clear hfz51_2
                                    try clear hfz51_3
                                    try clear hfz58_0
                                    try clear hfz58_1
                                    try clear hfz58_2
                                    try clear hfz58_3
                                    try clear hfz60_0
                                    try clear hfz60_1
                                    try clear hfz60_2
                                    try clear hfz60_3
                                    try clear hfz6_0
                                    try clear hfz6_1
                                    try clear hfz6_2
                                    try clear hfz6_3
                                    try clear hfz7_0
                                    try clear hfz7_1
                                    try clear hfz7_2
                                    try clear hfz7_3
                                    try clear hfz80_0
                                    try clear hfz80_1
                                    try clear hfz80_2
                                    try clear hfz80_3
                                    try clear hfz82_0
                                    try clear hfz82_1
                                    try clear hfz82_2
                                    try clear hfz82_3
                                    try clear hfz83_0
                                    try clear hfz83_1
                                    try clear hfz83_2
                                    try clear hfz83_3
                                    try clear hfz90_0
                                    try clear hfz90_1
                                    try clear hfz90_2
                                    try clear hfz90_3
                                    try clear hfz92_0
                                    try clear hfz92_1
                                    try clear hfz92_2
                                    try clear hfz92_3
                                    try clear p1
                                    try clear p11
                                    try clear p114
                                    try clear p118
                                    try clear p12
                                    try clear p132
                                    try clear p2
                                    try clear p3
                                    try clear p31
                                    try clear p6
                                    try clear p63
                                    try clear p9
                                    try clear p95
                                    try clear q1
                                    try clear q11
                                    try clear q114
                                    try clear q118
                                    try clear q12
                                    try clear q132
                                    try clear q3
                                    try clear q31
                                    try clear q6
                                    try clear q63
                                    try clear q9
                                    try clear q95
                                    obtain ⟨kq, x84_129, rfl, HA, HJ129, BK156, BK157, HB⟩ := hcut
                                    cases kq with
                                    | zero => exact absurd HA.out (by simp [bazaarref10_Parse.j5])
                                    | succ kj129 =>
                                      have H := HA.out
                                      clear HA
                                      simp only [bazaarref10_Parse.j5] at H
                                      by_cases c134 : x84_129 = true
                                      · subst c134
                                        have H1 : (if 1 < (a0.size : Int) then (if 2 ≤ 4 then (if 4 ≤ (a0.size : Int) then ((bazaarref03_Get.f kj129 (a0.extract 2 4)).bind fun t169 => ((bazaarref10_Right.f kj129 6 ((bt a0 1) % 4294967296) (IntKind.u16.wrap (t169)) 0).bind fun t170 => (if t170 = true then (some (6, (bt a0 1) % 4294967296, IntKind.u16.wrap (t169), 0, 0)) else (some (0, 0, 0, 0, 100))))) else (none)) else (none)) else (none)) = some (r1, r2, r3, r4, r5) := by rw [if_pos rfl] at H; exact H
                                        clear H
                                        have H := H1
                                        clear H1
                                        by_cases c135 : 1 < (a0.size : Int)
                                        · rw [if_pos c135] at H
                                          have c135b0 : decide (1 < (a0.size : Int)) = true := decide_eq_true c135
                                          have c135b1 : decide (1 < a0.size) = true := decide_eq_true (by omega)
                                          clear c135
                                          by_cases c137 : 2 ≤ 4
                                          · rw [if_pos c137] at H
                                            have c137b0 := eq_true c137
                                            have c137b1 : decide (2 ≤ 4) = true := decide_eq_true c137
                                            clear c137
                                            by_cases c138 : 4 ≤ (a0.size : Int)
                                            · rw [if_pos c138] at H
                                              have c138b0 := eq_true c138
                                              have c138b1 : decide (4 ≤ (a0.size : Int)) = true := decide_eq_true c138
                                              clear c138
                                              replace H := Option.bind_eq_some_iff.mp H
                                              obtain ⟨t169, A1390, H⟩ := H
                                              replace H : ((bazaarref10_Right.f kj129 6 ((bt a0 1) % 4294967296) (IntKind.u16.wrap (t169)) 0).bind fun t170 => (if t170 = true then (some (6, (bt a0 1) % 4294967296, IntKind.u16.wrap (t169), 0, 0)) else (some (0, 0, 0, 0, 100)))) = some (r1, r2, r3, r4, r5) := H
                                              have A139 := Aside0.mk A1390
                                              clear A1390
                                              replace H := Option.bind_eq_some_iff.mp H
                                              obtain ⟨t170, A1400, H⟩ := H
                                              replace H : (if t170 = true then (some (6, (bt a0 1) % 4294967296, IntKind.u16.wrap (t169), 0, 0)) else (some (0, 0, 0, 0, 100))) = some (r1, r2, r3, r4, r5) := H
                                              have A140 := Aside0.mk A1400
                                              clear A1400
                                              by_cases c141 : t170 = true
                                              · subst c141
                                                have H1 : (some (6, (bt a0 1) % 4294967296, IntKind.u16.wrap (t169), 0, 0)) = some (r1, r2, r3, r4, r5) := by rw [if_pos rfl] at H; exact H
                                                clear H
                                                have H := H1
                                                clear H1
                                                simp only [Option.some.injEq, Prod.mk.injEq] at H
                                                obtain ⟨rfl, rfl, rfl, rfl, rfl⟩ := H
                                                try go_wp2
                                                have n0_ := Aside0.mk (blk_drew BK156.out)
                                                have n1_ := Aside0.mk (blk_drew BK157.out)
                                                have n2_ := Aside0.mk (below_drew1 HB.out)
                                                clear BK156
                                                clear BK157
                                                clear HB
                                                have BK156 := n0_
                                                have BK157 := n1_
                                                have HB := n2_
                                                clear n0_ n1_ n2_
                                                have p136 : 0 ≤ (1 : Int) := (by omega)
                                                have q136 : 1 < a0.size := (by have : (1 : Int) < (a0.size : Int) := of_decide_eq_true (by first | (with_reducible assumption) | assumption); omega)
                                                have hx136 : ∀ h : 1 < a0.size, ((a0[1]'h).toNat : Int) = bt a0 1 := bt_at a0 1
                                                clear p136
                                                have qi136 : (1 < (a0.size : Int)) = True := eq_true (of_decide_eq_true (by first | (with_reducible assumption) | assumption))
                                                replace q136 := eq_true q136
                                                refine start_ (n := 9) (S := fun w' => True) (ds := []) #[false, false, false, false, false, false, false, false, false] (by kernel_rfl) rfl rfl trivial (fun hHeld => ?_); refine with_tabW bazaarref10_Parse.tab16 bazaarref10_Parse.bits16 (fun HT_ HW_ => ?_)
                                                generalize wc.drew = w142 at BK156 BK157 HB hHeld ⊢
                                                refine pure_ (i := 0) (N := some 92) (v := ?_) (a' := ?_) #[true, false, false, false, false, false, false, false, false] rfl rfl (any_of HT_.out (by kernel_rfl)) (fun _ _ _ h => h) (Or.inl ⟨by rfl, ?_⟩) ?_ ?_
                                                rotate_left
                                                · intro w'
                                                  go_simp
                                                  with_reducible rfl
                                                rotate_left
                                                · simp only [Act.put, List.setIfInBounds_toArray, List.set_cons_zero, List.set_cons_succ, i64_w, i32_w]
                                                  rfl
                                                refine pure_ (i := 3) (N := some 95) (v := ?_) (a' := ?_) #[true, false, false, true, false, false, false, false, false] rfl rfl (any_of HT_.out (by kernel_rfl)) (fun _ _ _ h => h) (Or.inl ⟨by rfl, ?_⟩) ?_ ?_
                                                rotate_left
                                                · intro w'
                                                  go_simp
                                                  with_reducible rfl
                                                rotate_left
                                                · simp only [Act.put, List.setIfInBounds_toArray, List.set_cons_zero, List.set_cons_succ, i64_w, i32_w]
                                                  rfl
                                                refine pure_ (i := 4) (N := some 96) (v := ?_) (a' := ?_) #[true, false, false, true, true, false, false, false, false] rfl rfl (any_of HT_.out (by kernel_rfl)) (fun _ _ _ h => h) (Or.inl ⟨by rfl, ?_⟩) ?_ ?_
                                                rotate_left
                                                · intro w'
                                                  go_simp
                                                  with_reducible rfl
                                                rotate_left
                                                · simp only [Act.put, List.setIfInBounds_toArray, List.set_cons_zero, List.set_cons_succ, i64_w, i32_w]
                                                  rfl
                                                refine take_ (i := 1) (N := some 93) (v := ?_) (a' := ?_) #[true, true, false, true, true, false, false, false, false] rfl rfl (take_ofW HT_.out HW_.out (by kernel_rfl)) (fun _ _ _ h => h) (Or.inl ⟨by rfl, ?_⟩) hHeld ?_ ?_
                                                rotate_left
                                                · intro w' _
                                                  go_simp
                                                  with_reducible rfl
                                                rotate_left
                                                · simp only [Act.put, List.setIfInBounds_toArray, List.set_cons_zero, List.set_cons_succ, i64_w, i32_w]
                                                  rfl
                                                refine pure_ (i := 2) (N := some 94) (v := ?_) (a' := ?_) #[true, true, true, true, true, false, false, false, false] rfl rfl (any_of HT_.out (by kernel_rfl)) (fun _ _ _ h => h) (Or.inl ⟨by rfl, ?_⟩) ?_ ?_
                                                rotate_left
                                                · intro w'
                                                  go_simp
                                                  with_reducible rfl
                                                rotate_left
                                                · simp only [Act.put, List.setIfInBounds_toArray, List.set_cons_zero, List.set_cons_succ, i64_w, i32_w]
                                                  rfl
                                                refine one_ (i := 5) (N := some 97) #[true, true, true, true, true, true, false, false, false] rfl rfl (one_of HT_.out (by kernel_rfl)) (by decide) (fun K hK => ?_)
                                                refine goes_ Try.func22 (by kernel_rfl) rfl #[.string (a0.extract 2 4)] (by rfl) rfl rfl (by (try simp only [List.map_toArray, List.map_cons, List.map_nil]); first | done | rfl | (simp only [List.length_drop, List.length_take]; rfl)) ?_
                                                with_reducible refine (bazaarref03_Get.calls kj129 (a0.extract 2 4) t169 _ A139.out).mono ?_
                                                rintro e w' ⟨rfl, ⟨nd, rfl⟩⟩
                                                refine ⟨_, rfl, ?_⟩
                                                refine hK.out _ _ trivial (fun hHeld => ?_)
                                                clear hK K
                                                refine norm_ (a' := ?_) ?_ ?_
                                                rotate_left
                                                · show Act.put _ (some 97) _ = _
                                                  simp only [Act.put, List.setIfInBounds_toArray, List.set_cons_zero, List.set_cons_succ, i64_w, i32_w]
                                                  rfl
                                                refine pure_ (i := 6) (N := some 98) (v := ?_) (a' := ?_) #[true, true, true, true, true, true, true, false, false] rfl rfl (any_of HT_.out (by kernel_rfl)) (fun _ _ _ h => h) (Or.inl ⟨by rfl, ?_⟩) ?_ ?_
                                                rotate_left
                                                · intro w'
                                                  go_simp
                                                  with_reducible rfl
                                                rotate_left
                                                · simp only [Act.put, List.setIfInBounds_toArray, List.set_cons_zero, List.set_cons_succ, i64_w, i32_w]
                                                  rfl
                                                refine pure_ (i := 7) (N := some 99) (v := ?_) (a' := ?_) #[true, true, true, true, true, true, true, true, false] rfl rfl (any_of HT_.out (by kernel_rfl)) (fun _ _ _ h => h) (Or.inl ⟨by rfl, ?_⟩) ?_ ?_
                                                rotate_left
                                                · intro w'
                                                  go_simp
                                                  with_reducible rfl
                                                rotate_left
                                                · simp only [Act.put, List.setIfInBounds_toArray, List.set_cons_zero, List.set_cons_succ, i64_w, i32_w]
                                                  rfl
                                                refine one_ (i := 8) (N := none) #[true, true, true, true, true, true, true, true, true] rfl rfl (one_of HT_.out (by kernel_rfl)) (by decide) (fun K hK => ?_)
                                                have hs143 : w142.cell? ⟨gb157, 0, none⟩ = some (.int .i64 0) := (blk_cell BK157.out 0).trans rfl
                                                have hfs143 := blk_frozen BK157.out 0
                                                have hns143_0 := NB156_157.out
                                                have hms143_0 := NB157_156.out
                                                have hs144 : w142.cell? ⟨gb157, 1, none⟩ = some (.int .u32 0) := (blk_cell BK157.out 1).trans rfl
                                                have hfs144 := blk_frozen BK157.out 1
                                                have hns144_0 := NB156_157.out
                                                have hms144_0 := NB157_156.out
                                                have hs145 : w142.cell? ⟨gb157, 2, none⟩ = some (.int .u16 0) := (blk_cell BK157.out 2).trans rfl
                                                have hfs145 := blk_frozen BK157.out 2
                                                have hns145_0 := NB156_157.out
                                                have hms145_0 := NB157_156.out
                                                have hs146 : w142.cell? ⟨gb157, 3, none⟩ = some (.int .u32 0) := (blk_cell BK157.out 3).trans rfl
                                                have hfs146 := blk_frozen BK157.out 3
                                                have hns146_0 := NB156_157.out
                                                have hms146_0 := NB157_156.out
                                                refine skip_ (w1 := ?_) (by rfl) rfl ?_ ?_
                                                rotate_left
                                                · go_simp
                                                  rfl
                                                refine hK.out _ _ trivial (fun hHeld => ?_)
                                                clear hK K
                                                refine done_ (done_of HT_.out (by kernel_rfl)) ?_
                                                have hnb147 := NB157_156.out
                                                have hnc147 := NB156_157.out
                                                have hcz148_0 : w142.cell? ⟨gb157, 0, none⟩ = some (.int .i64 0) := (blk_cell BK157.out 0).trans rfl
                                                have hcz148_1 : w142.cell? ⟨gb157, 1, none⟩ = some (.int .u32 0) := (blk_cell BK157.out 1).trans rfl
                                                have hcz148_2 : w142.cell? ⟨gb157, 2, none⟩ = some (.int .u16 0) := (blk_cell BK157.out 2).trans rfl
                                                have hcz148_3 : w142.cell? ⟨gb157, 3, none⟩ = some (.int .u32 0) := (blk_cell BK157.out 3).trans rfl
                                                have hfz148_0 := blk_frozen BK157.out 0
                                                have hfz148_1 := blk_frozen BK157.out 1
                                                have hfz148_2 := blk_frozen BK157.out 2
                                                have hfz148_3 := blk_frozen BK157.out 3
                                                try go_wp2_with (first | ((with_reducible refine gate_callee (f := 14) rfl ?_); refine goesL_ (some 101) rfl rfl Try.func14 (by kernel_rfl) rfl #[.agg #[.int .i64 6, .int .u32 ((bt a0 1) % 4294967296), .int .u16 (IntKind.u16.wrap (t169)), .int .u32 0]] rfl (by (try simp only [List.map_toArray, List.map_cons, List.map_nil]); first | done | rfl | (simp only [List.length_drop, List.length_take]; rfl)) ?_; (with_reducible refine (bazaarref10_Right.calls kj129 6 ((bt a0 1) % 4294967296) (IntKind.u16.wrap (t169)) 0 true _ A140.out).mono ?_); rintro e w149 ⟨rfl, hb⟩; refine ⟨_, rfl, ?_⟩; have n0_ := Aside0.mk (blk_below (g := gb156) (o := .cells #[.int .i64 0, .int .u32 0, .int .u16 0, .int .u32 0] 25 (0, 0)) (by (with_reducible repeat (first | refine blk_drewN ?_ _ | refine blk_drew ?_ | refine blk_alloc ?_ _)); refine blk_far ?_ NB156_157.out _; (with_reducible repeat (first | refine blk_drewN ?_ _ | refine blk_drew ?_ | refine blk_alloc ?_ _)); refine blk_far ?_ NB156_157.out _; (with_reducible repeat (first | refine blk_drewN ?_ _ | refine blk_drew ?_ | refine blk_alloc ?_ _)); refine blk_far ?_ NB156_157.out _; (with_reducible repeat (first | refine blk_drewN ?_ _ | refine blk_drew ?_ | refine blk_alloc ?_ _)); refine blk_far ?_ NB156_157.out _; (with_reducible repeat (first | refine blk_drewN ?_ _ | refine blk_drew ?_ | refine blk_alloc ?_ _)); exact BK156.out) hb); have n1_ := Aside0.mk (blk_below (g := gb157) (o := .cells #[.int .i64 6, .int .u32 ((bt a0 1) % 4294967296), .int .u16 (IntKind.u16.wrap (t169)), .int .u32 0] 25 (0, 0)) (by (with_reducible repeat (first | refine blk_drewN ?_ _ | refine blk_drew ?_ | refine blk_alloc ?_ _)); refine blk_put (cs := #[.int .i64 6, .int .u32 ((bt a0 1) % 4294967296), .int .u16 (IntKind.u16.wrap (t169)), .int .u32 0]) ?_ 3 _ rfl; (with_reducible repeat (first | refine blk_drewN ?_ _ | refine blk_drew ?_ | refine blk_alloc ?_ _)); refine blk_put (cs := #[.int .i64 6, .int .u32 ((bt a0 1) % 4294967296), .int .u16 0, .int .u32 0]) ?_ 2 _ rfl; (with_reducible repeat (first | refine blk_drewN ?_ _ | refine blk_drew ?_ | refine blk_alloc ?_ _)); refine blk_put (cs := #[.int .i64 6, .int .u32 0, .int .u16 0, .int .u32 0]) ?_ 1 _ rfl; (with_reducible repeat (first | refine blk_drewN ?_ _ | refine blk_drew ?_ | refine blk_alloc ?_ _)); refine blk_put (cs := #[.int .i64 0, .int .u32 0, .int .u16 0, .int .u32 0]) ?_ 0 _ rfl; (with_reducible repeat (first | refine blk_drewN ?_ _ | refine blk_drew ?_ | refine blk_alloc ?_ _)); exact BK157.out) hb); have n2_ := Aside0.mk (below_step (by repeat (first | (with_reducible first | exact HB.out | apply below_alloc | apply pw_below_drewN | apply below_drew1 | refine below_set ?_ GE156.out | refine below_set ?_ GE157.out) | exact HB.out)) hb); clear BK156; clear BK157; clear HB; have BK156 := n0_; have BK157 := n1_; have HB := n2_; clear n0_ n1_ n2_; (try clear hb); (try clear hb2); (try clear hk); (try clear hi); have hcz150_0 : w149.cell? ⟨gb157, 0, none⟩ = some (.int .i64 6) := (blk_cell BK157.out 0).trans rfl; have hcz150_1 : w149.cell? ⟨gb157, 1, none⟩ = some (.int .u32 ((bt a0 1) % 4294967296)) := (blk_cell BK157.out 1).trans rfl; have hcz150_2 : w149.cell? ⟨gb157, 2, none⟩ = some (.int .u16 (IntKind.u16.wrap (t169))) := (blk_cell BK157.out 2).trans rfl; have hcz150_3 : w149.cell? ⟨gb157, 3, none⟩ = some (.int .u32 0) := (blk_cell BK157.out 3).trans rfl; have hfz150_0 := blk_frozen BK157.out 0; have hfz150_1 := blk_frozen BK157.out 1; have hfz150_2 := blk_frozen BK157.out 2; have hfz150_3 := blk_frozen BK157.out 3; have hcz151_0 : w149.cell? ⟨gb156, 0, none⟩ = some (.int .i64 0) := (blk_cell BK156.out 0).trans rfl; have hcz151_1 : w149.cell? ⟨gb156, 1, none⟩ = some (.int .u32 0) := (blk_cell BK156.out 1).trans rfl; have hcz151_2 : w149.cell? ⟨gb156, 2, none⟩ = some (.int .u16 0) := (blk_cell BK156.out 2).trans rfl; have hcz151_3 : w149.cell? ⟨gb156, 3, none⟩ = some (.int .u32 0) := (blk_cell BK156.out 3).trans rfl; have hfz151_0 := blk_frozen BK156.out 0; have hfz151_1 := blk_frozen BK156.out 1; have hfz151_2 := blk_frozen BK156.out 2; have hfz151_3 := blk_frozen BK156.out 3))
                                                refine bodyPost_ret (results_ct rfl _ _ gb156 25 #[.int .i64 6, .int .u32 ((bt a0 1) % 4294967296), .int .u16 (IntKind.u16.wrap (t169)), .int .u32 0] (0, 0) _ rfl (by (with_reducible repeat (first | refine blk_drewN ?_ _ | refine blk_drew ?_ | refine blk_alloc ?_ _)); refine blk_put (cs := #[.int .i64 6, .int .u32 ((bt a0 1) % 4294967296), .int .u16 (IntKind.u16.wrap (t169)), .int .u32 0]) ?_ 3 _ rfl; (with_reducible repeat (first | refine blk_drewN ?_ _ | refine blk_drew ?_ | refine blk_alloc ?_ _)); refine blk_put (cs := #[.int .i64 6, .int .u32 ((bt a0 1) % 4294967296), .int .u16 0, .int .u32 0]) ?_ 2 _ rfl; (with_reducible repeat (first | refine blk_drewN ?_ _ | refine blk_drew ?_ | refine blk_alloc ?_ _)); refine blk_put (cs := #[.int .i64 6, .int .u32 0, .int .u16 0, .int .u32 0]) ?_ 1 _ rfl; (with_reducible repeat (first | refine blk_drewN ?_ _ | refine blk_drew ?_ | refine blk_alloc ?_ _)); refine blk_put (cs := #[.int .i64 0, .int .u32 0, .int .u16 0, .int .u32 0]) ?_ 0 _ rfl; (with_reducible repeat (first | refine blk_drewN ?_ _ | refine blk_drew ?_ | refine blk_alloc ?_ _)); exact BK156.out) Try.underlying25 rfl (by kernel_rfl)) rfl ?_
                                                exact ⟨by first | rfl | (simp [errW_none, errW_some] <;> rfl) | (simp [*, errW_none, errW_some] <;> rfl), by repeat (first | (with_reducible first | exact HB.out | apply below_alloc | apply pw_below_drewN | apply below_drew1 | refine below_set ?_ GE156.out | refine below_set ?_ GE157.out) | exact HB.out)⟩
                                              · replace c141 := Bool.eq_false_iff.mpr c141
                                                subst c141
                                                have H1 : (some (0, 0, 0, 0, 100)) = some (r1, r2, r3, r4, r5) := by rw [if_neg (show ¬ (false = true) by decide)] at H; exact H
                                                clear H
                                                have H := H1
                                                clear H1
                                                simp only [Option.some.injEq, Prod.mk.injEq] at H
                                                obtain ⟨rfl, rfl, rfl, rfl, rfl⟩ := H
                                                try go_wp2
                                                have n0_ := Aside0.mk (blk_drew BK156.out)
                                                have n1_ := Aside0.mk (blk_drew BK157.out)
                                                have n2_ := Aside0.mk (below_drew1 HB.out)
                                                clear BK156
                                                clear BK157
                                                clear HB
                                                have BK156 := n0_
                                                have BK157 := n1_
                                                have HB := n2_
                                                clear n0_ n1_ n2_
                                                have p136 : 0 ≤ (1 : Int) := (by omega)
                                                have q136 : 1 < a0.size := (by have : (1 : Int) < (a0.size : Int) := of_decide_eq_true (by first | (with_reducible assumption) | assumption); omega)
                                                have hx136 : ∀ h : 1 < a0.size, ((a0[1]'h).toNat : Int) = bt a0 1 := bt_at a0 1
                                                clear p136
                                                have qi136 : (1 < (a0.size : Int)) = True := eq_true (of_decide_eq_true (by first | (with_reducible assumption) | assumption))
                                                replace q136 := eq_true q136
                                                refine start_ (n := 9) (S := fun w' => True) (ds := []) #[false, false, false, false, false, false, false, false, false] (by kernel_rfl) rfl rfl trivial (fun hHeld => ?_); refine with_tabW bazaarref10_Parse.tab16 bazaarref10_Parse.bits16 (fun HT_ HW_ => ?_)
                                                generalize wc.drew = w152 at BK156 BK157 HB hHeld ⊢
                                                refine pure_ (i := 0) (N := some 92) (v := ?_) (a' := ?_) #[true, false, false, false, false, false, false, false, false] rfl rfl (any_of HT_.out (by kernel_rfl)) (fun _ _ _ h => h) (Or.inl ⟨by rfl, ?_⟩) ?_ ?_
                                                rotate_left
                                                · intro w'
                                                  go_simp
                                                  with_reducible rfl
                                                rotate_left
                                                · simp only [Act.put, List.setIfInBounds_toArray, List.set_cons_zero, List.set_cons_succ, i64_w, i32_w]
                                                  rfl
                                                refine pure_ (i := 3) (N := some 95) (v := ?_) (a' := ?_) #[true, false, false, true, false, false, false, false, false] rfl rfl (any_of HT_.out (by kernel_rfl)) (fun _ _ _ h => h) (Or.inl ⟨by rfl, ?_⟩) ?_ ?_
                                                rotate_left
                                                · intro w'
                                                  go_simp
                                                  with_reducible rfl
                                                rotate_left
                                                · simp only [Act.put, List.setIfInBounds_toArray, List.set_cons_zero, List.set_cons_succ, i64_w, i32_w]
                                                  rfl
                                                refine pure_ (i := 4) (N := some 96) (v := ?_) (a' := ?_) #[true, false, false, true, true, false, false, false, false] rfl rfl (any_of HT_.out (by kernel_rfl)) (fun _ _ _ h => h) (Or.inl ⟨by rfl, ?_⟩) ?_ ?_
                                                rotate_left
                                                · intro w'
                                                  go_simp
                                                  with_reducible rfl
                                                rotate_left
                                                · simp only [Act.put, List.setIfInBounds_toArray, List.set_cons_zero, List.set_cons_succ, i64_w, i32_w]
                                                  rfl
                                                refine take_ (i := 1) (N := some 93) (v := ?_) (a' := ?_) #[true, true, false, true, true, false, false, false, false] rfl rfl (take_ofW HT_.out HW_.out (by kernel_rfl)) (fun _ _ _ h => h) (Or.inl ⟨by rfl, ?_⟩) hHeld ?_ ?_
                                                rotate_left
                                                · intro w' _
                                                  go_simp
                                                  with_reducible rfl
                                                rotate_left
                                                · simp only [Act.put, List.setIfInBounds_toArray, List.set_cons_zero, List.set_cons_succ, i64_w, i32_w]
                                                  rfl
                                                refine pure_ (i := 2) (N := some 94) (v := ?_) (a' := ?_) #[true, true, true, true, true, false, false, false, false] rfl rfl (any_of HT_.out (by kernel_rfl)) (fun _ _ _ h => h) (Or.inl ⟨by rfl, ?_⟩) ?_ ?_
                                                rotate_left
                                                · intro w'
                                                  go_simp
                                                  with_reducible rfl
                                                rotate_left
                                                · simp only [Act.put, List.setIfInBounds_toArray, List.set_cons_zero, List.set_cons_succ, i64_w, i32_w]
                                                  rfl
                                                refine one_ (i := 5) (N := some 97) #[true, true, true, true, true, true, false, false, false] rfl rfl (one_of HT_.out (by kernel_rfl)) (by decide) (fun K hK => ?_)
                                                refine goes_ Try.func22 (by kernel_rfl) rfl #[.string (a0.extract 2 4)] (by rfl) rfl rfl (by (try simp only [List.map_toArray, List.map_cons, List.map_nil]); first | done | rfl | (simp only [List.length_drop, List.length_take]; rfl)) ?_
                                                with_reducible refine (bazaarref03_Get.calls kj129 (a0.extract 2 4) t169 _ A139.out).mono ?_
                                                rintro e w' ⟨rfl, ⟨nd, rfl⟩⟩
                                                refine ⟨_, rfl, ?_⟩
                                                refine hK.out _ _ trivial (fun hHeld => ?_)
                                                clear hK K
                                                refine norm_ (a' := ?_) ?_ ?_
                                                rotate_left
                                                · show Act.put _ (some 97) _ = _
                                                  simp only [Act.put, List.setIfInBounds_toArray, List.set_cons_zero, List.set_cons_succ, i64_w, i32_w]
                                                  rfl
                                                refine pure_ (i := 6) (N := some 98) (v := ?_) (a' := ?_) #[true, true, true, true, true, true, true, false, false] rfl rfl (any_of HT_.out (by kernel_rfl)) (fun _ _ _ h => h) (Or.inl ⟨by rfl, ?_⟩) ?_ ?_
                                                rotate_left
                                                · intro w'
                                                  go_simp
                                                  with_reducible rfl
                                                rotate_left
                                                · simp only [Act.put, List.setIfInBounds_toArray, List.set_cons_zero, List.set_cons_succ, i64_w, i32_w]
                                                  rfl
                                                refine pure_ (i := 7) (N := some 99) (v := ?_) (a' := ?_) #[true, true, true, true, true, true, true, true, false] rfl rfl (any_of HT_.out (by kernel_rfl)) (fun _ _ _ h => h) (Or.inl ⟨by rfl, ?_⟩) ?_ ?_
                                                rotate_left
                                                · intro w'
                                                  go_simp
                                                  with_reducible rfl
                                                rotate_left
                                                · simp only [Act.put, List.setIfInBounds_toArray, List.set_cons_zero, List.set_cons_succ, i64_w, i32_w]
                                                  rfl
                                                refine one_ (i := 8) (N := none) #[true, true, true, true, true, true, true, true, true] rfl rfl (one_of HT_.out (by kernel_rfl)) (by decide) (fun K hK => ?_)
                                                have hs153 : w152.cell? ⟨gb157, 0, none⟩ = some (.int .i64 0) := (blk_cell BK157.out 0).trans rfl
                                                have hfs153 := blk_frozen BK157.out 0
                                                have hns153_0 := NB156_157.out
                                                have hms153_0 := NB157_156.out
                                                have hs154 : w152.cell? ⟨gb157, 1, none⟩ = some (.int .u32 0) := (blk_cell BK157.out 1).trans rfl
                                                have hfs154 := blk_frozen BK157.out 1
                                                have hns154_0 := NB156_157.out
                                                have hms154_0 := NB157_156.out
                                                have hs155 : w152.cell? ⟨gb157, 2, none⟩ = some (.int .u16 0) := (blk_cell BK157.out 2).trans rfl
                                                have hfs155 := blk_frozen BK157.out 2
                                                have hns155_0 := NB156_157.out
                                                have hms155_0 := NB157_156.out
                                                have hs156 : w152.cell? ⟨gb157, 3, none⟩ = some (.int .u32 0) := (blk_cell BK157.out 3).trans rfl
                                                have hfs156 := blk_frozen BK157.out 3
                                                have hns156_0 := NB156_157.out
                                                have hms156_0 := NB157_156.out
                                                refine skip_ (w1 := ?_) (by rfl) rfl ?_ ?_
                                                rotate_left
                                                · go_simp
                                                  rfl
                                                refine hK.out _ _ trivial (fun hHeld => ?_)
                                                clear hK K
                                                refine done_ (done_of HT_.out (by kernel_rfl)) ?_
                                                have hnb157 := NB157_156.out
                                                have hnc157 := NB156_157.out
                                                have hcz158_0 : w152.cell? ⟨gb157, 0, none⟩ = some (.int .i64 0) := (blk_cell BK157.out 0).trans rfl
                                                have hcz158_1 : w152.cell? ⟨gb157, 1, none⟩ = some (.int .u32 0) := (blk_cell BK157.out 1).trans rfl
                                                have hcz158_2 : w152.cell? ⟨gb157, 2, none⟩ = some (.int .u16 0) := (blk_cell BK157.out 2).trans rfl
                                                have hcz158_3 : w152.cell? ⟨gb157, 3, none⟩ = some (.int .u32 0) := (blk_cell BK157.out 3).trans rfl
                                                have hfz158_0 := blk_frozen BK157.out 0
                                                have hfz158_1 := blk_frozen BK157.out 1
                                                have hfz158_2 := blk_frozen BK157.out 2
                                                have hfz158_3 := blk_frozen BK157.out 3
                                                try go_wp2_with (first | ((with_reducible refine gate_callee (f := 14) rfl ?_); refine goesL_ (some 101) rfl rfl Try.func14 (by kernel_rfl) rfl #[.agg #[.int .i64 6, .int .u32 ((bt a0 1) % 4294967296), .int .u16 (IntKind.u16.wrap (t169)), .int .u32 0]] rfl (by (try simp only [List.map_toArray, List.map_cons, List.map_nil]); first | done | rfl | (simp only [List.length_drop, List.length_take]; rfl)) ?_; (with_reducible refine (bazaarref10_Right.calls kj129 6 ((bt a0 1) % 4294967296) (IntKind.u16.wrap (t169)) 0 false _ A140.out).mono ?_); rintro e w159 ⟨rfl, hb⟩; refine ⟨_, rfl, ?_⟩; have n0_ := Aside0.mk (blk_below (g := gb156) (o := .cells #[.int .i64 0, .int .u32 0, .int .u16 0, .int .u32 0] 25 (0, 0)) (by (with_reducible repeat (first | refine blk_drewN ?_ _ | refine blk_drew ?_ | refine blk_alloc ?_ _)); refine blk_far ?_ NB156_157.out _; (with_reducible repeat (first | refine blk_drewN ?_ _ | refine blk_drew ?_ | refine blk_alloc ?_ _)); refine blk_far ?_ NB156_157.out _; (with_reducible repeat (first | refine blk_drewN ?_ _ | refine blk_drew ?_ | refine blk_alloc ?_ _)); refine blk_far ?_ NB156_157.out _; (with_reducible repeat (first | refine blk_drewN ?_ _ | refine blk_drew ?_ | refine blk_alloc ?_ _)); refine blk_far ?_ NB156_157.out _; (with_reducible repeat (first | refine blk_drewN ?_ _ | refine blk_drew ?_ | refine blk_alloc ?_ _)); exact BK156.out) hb); have n1_ := Aside0.mk (blk_below (g := gb157) (o := .cells #[.int .i64 6, .int .u32 ((bt a0 1) % 4294967296), .int .u16 (IntKind.u16.wrap (t169)), .int .u32 0] 25 (0, 0)) (by (with_reducible repeat (first | refine blk_drewN ?_ _ | refine blk_drew ?_ | refine blk_alloc ?_ _)); refine blk_put (cs := #[.int .i64 6, .int .u32 ((bt a0 1) % 4294967296), .int .u16 (IntKind.u16.wrap (t169)), .int .u32 0]) ?_ 3 _ rfl; (with_reducible repeat (first | refine blk_drewN ?_ _ | refine blk_drew ?_ | refine blk_alloc ?_ _)); refine blk_put (cs := #[.int .i64 6, .int .u32 ((bt a0 1) % 4294967296), .int .u16 0, .int .u32 0]) ?_ 2 _ rfl; (with_reducible repeat (first | refine blk_drewN ?_ _ | refine blk_drew ?_ | refine blk_alloc ?_ _)); refine blk_put (cs := #[.int .i64 6, .int .u32 0, .int .u16 0, .int .u32 0]) ?_ 1 _ rfl; (with_reducible repeat (first | refine blk_drewN ?_ _ | refine blk_drew ?_ | refine blk_alloc ?_ _)); refine blk_put (cs := #[.int .i64 0, .int .u32 0, .int .u16 0, .int .u32 0]) ?_ 0 _ rfl; (with_reducible repeat (first | refine blk_drewN ?_ _ | refine blk_drew ?_ | refine blk_alloc ?_ _)); exact BK157.out) hb); have n2_ := Aside0.mk (below_step (by repeat (first | (with_reducible first | exact HB.out | apply below_alloc | apply pw_below_drewN | apply below_drew1 | refine below_set ?_ GE156.out | refine below_set ?_ GE157.out) | exact HB.out)) hb); clear BK156; clear BK157; clear HB; have BK156 := n0_; have BK157 := n1_; have HB := n2_; clear n0_ n1_ n2_; (try clear hb); (try clear hb2); (try clear hk); (try clear hi); have hcz160_0 : w159.cell? ⟨gb156, 0, none⟩ = some (.int .i64 0) := (blk_cell BK156.out 0).trans rfl; have hcz160_1 : w159.cell? ⟨gb156, 1, none⟩ = some (.int .u32 0) := (blk_cell BK156.out 1).trans rfl; have hcz160_2 : w159.cell? ⟨gb156, 2, none⟩ = some (.int .u16 0) := (blk_cell BK156.out 2).trans rfl; have hcz160_3 : w159.cell? ⟨gb156, 3, none⟩ = some (.int .u32 0) := (blk_cell BK156.out 3).trans rfl; have hfz160_0 := blk_frozen BK156.out 0; have hfz160_1 := blk_frozen BK156.out 1; have hfz160_2 := blk_frozen BK156.out 2; have hfz160_3 := blk_frozen BK156.out 3))
                                                refine bodyPost_ret (results_ct rfl _ _ gb156 25 #[.int .i64 0, .int .u32 0, .int .u16 0, .int .u32 0] (0, 0) _ rfl (by (with_reducible repeat (first | refine blk_drewN ?_ _ | refine blk_drew ?_ | refine blk_alloc ?_ _)); refine blk_put (cs := #[.int .i64 0, .int .u32 0, .int .u16 0, .int .u32 0]) ?_ 3 _ rfl; (with_reducible repeat (first | refine blk_drewN ?_ _ | refine blk_drew ?_ | refine blk_alloc ?_ _)); refine blk_put (cs := #[.int .i64 0, .int .u32 0, .int .u16 0, .int .u32 0]) ?_ 2 _ rfl; (with_reducible repeat (first | refine blk_drewN ?_ _ | refine blk_drew ?_ | refine blk_alloc ?_ _)); refine blk_put (cs := #[.int .i64 0, .int .u32 0, .int .u16 0, .int .u32 0]) ?_ 1 _ rfl; (with_reducible repeat (first | refine blk_drewN ?_ _ | refine blk_drew ?_ | refine blk_alloc ?_ _)); refine blk_put (cs := #[.int .i64 0, .int .u32 0, .int .u16 0, .int .u32 0]) ?_ 0 _ rfl; (with_reducible repeat (first | refine blk_drewN ?_ _ | refine blk_drew ?_ | refine blk_alloc ?_ _)); exact BK156.out) Try.underlying25 rfl (by kernel_rfl)) rfl ?_
                                                exact ⟨by first | rfl | (simp [errW_none, errW_some] <;> rfl) | (simp [*, errW_none, errW_some] <;> rfl), by repeat (first | (with_reducible first | exact HB.out | apply below_alloc | apply pw_below_drewN | apply below_drew1 | refine below_set ?_ GE156.out | refine below_set ?_ GE157.out) | exact HB.out)⟩
                                            · rw [if_neg c138] at H
                                              exact absurd H (by simp)
                                          · rw [if_neg c137] at H
                                            exact absurd H (by simp)
                                        · rw [if_neg c135] at H
                                          exact absurd H (by simp)
                                      · replace c134 := Bool.eq_false_iff.mpr c134
                                        subst c134
                                        have H1 : ((bazaarref10_Right.f kj129 0 0 0 0).bind fun t171 => (if t171 = true then (some (0, 0, 0, 0, 0)) else (some (0, 0, 0, 0, 100)))) = some (r1, r2, r3, r4, r5) := by rw [if_neg (show ¬ (false = true) by decide)] at H; exact H
                                        clear H
                                        have H := H1
                                        clear H1
                                        replace H := Option.bind_eq_some_iff.mp H
                                        obtain ⟨t171, A1610, H⟩ := H
                                        replace H : (if t171 = true then (some (0, 0, 0, 0, 0)) else (some (0, 0, 0, 0, 100))) = some (r1, r2, r3, r4, r5) := H
                                        have A161 := Aside0.mk A1610
                                        clear A1610
                                        by_cases c162 : t171 = true
                                        · subst c162
                                          have H1 : (some (0, 0, 0, 0, 0)) = some (r1, r2, r3, r4, r5) := by rw [if_pos rfl] at H; exact H
                                          clear H
                                          have H := H1
                                          clear H1
                                          simp only [Option.some.injEq, Prod.mk.injEq] at H
                                          obtain ⟨rfl, rfl, rfl, rfl, rfl⟩ := H
                                          have hnb163 := NB157_156.out
                                          have hnc163 := NB156_157.out
                                          have hcz164_0 : wc.cell? ⟨gb157, 0, none⟩ = some (.int .i64 0) := (blk_cell BK157.out 0).trans rfl
                                          have hcz164_1 : wc.cell? ⟨gb157, 1, none⟩ = some (.int .u32 0) := (blk_cell BK157.out 1).trans rfl
                                          have hcz164_2 : wc.cell? ⟨gb157, 2, none⟩ = some (.int .u16 0) := (blk_cell BK157.out 2).trans rfl
                                          have hcz164_3 : wc.cell? ⟨gb157, 3, none⟩ = some (.int .u32 0) := (blk_cell BK157.out 3).trans rfl
                                          have hfz164_0 := blk_frozen BK157.out 0
                                          have hfz164_1 := blk_frozen BK157.out 1
                                          have hfz164_2 := blk_frozen BK157.out 2
                                          have hfz164_3 := blk_frozen BK157.out 3
                                          go_wp2_with (first | ((with_reducible refine gate_callee (f := 14) rfl ?_); refine goesL_ (some 101) rfl rfl Try.func14 (by kernel_rfl) rfl #[.agg #[.int .i64 0, .int .u32 0, .int .u16 0, .int .u32 0]] rfl (by (try simp only [List.map_toArray, List.map_cons, List.map_nil]); first | done | rfl | (simp only [List.length_drop, List.length_take]; rfl)) ?_; (with_reducible refine (bazaarref10_Right.calls kj129 0 0 0 0 true _ A161.out).mono ?_); rintro e w165 ⟨rfl, hb⟩; refine ⟨_, rfl, ?_⟩; have n0_ := Aside0.mk (blk_below (g := gb156) (o := .cells #[.int .i64 0, .int .u32 0, .int .u16 0, .int .u32 0] 25 (0, 0)) (by (with_reducible repeat (first | refine blk_drewN ?_ _ | refine blk_drew ?_ | refine blk_alloc ?_ _)); exact BK156.out) hb); have n1_ := Aside0.mk (blk_below (g := gb157) (o := .cells #[.int .i64 0, .int .u32 0, .int .u16 0, .int .u32 0] 25 (0, 0)) (by (with_reducible repeat (first | refine blk_drewN ?_ _ | refine blk_drew ?_ | refine blk_alloc ?_ _)); exact BK157.out) hb); have n2_ := Aside0.mk (below_step (by repeat (first | (with_reducible first | exact HB.out | apply below_alloc | apply pw_below_drewN | apply below_drew1 | refine below_set ?_ GE156.out | refine below_set ?_ GE157.out) | exact HB.out)) hb); clear BK156; clear BK157; clear HB; have BK156 := n0_; have BK157 := n1_; have HB := n2_; clear n0_ n1_ n2_; (try clear hb); (try clear hb2); (try clear hk); (try clear hi); have hcz166_0 : w165.cell? ⟨gb157, 0, none⟩ = some (.int .i64 0) := (blk_cell BK157.out 0).trans rfl; have hcz166_1 : w165.cell? ⟨gb157, 1, none⟩ = some (.int .u32 0) := (blk_cell BK157.out 1).trans rfl; have hcz166_2 : w165.cell? ⟨gb157, 2, none⟩ = some (.int .u16 0) := (blk_cell BK157.out 2).trans rfl; have hcz166_3 : w165.cell? ⟨gb157, 3, none⟩ = some (.int .u32 0) := (blk_cell BK157.out 3).trans rfl; have hfz166_0 := blk_frozen BK157.out 0; have hfz166_1 := blk_frozen BK157.out 1; have hfz166_2 := blk_frozen BK157.out 2; have hfz166_3 := blk_frozen BK157.out 3; have hcz167_0 : w165.cell? ⟨gb156, 0, none⟩ = some (.int .i64 0) := (blk_cell BK156.out 0).trans rfl; have hcz167_1 : w165.cell? ⟨gb156, 1, none⟩ = some (.int .u32 0) := (blk_cell BK156.out 1).trans rfl; have hcz167_2 : w165.cell? ⟨gb156, 2, none⟩ = some (.int .u16 0) := (blk_cell BK156.out 2).trans rfl; have hcz167_3 : w165.cell? ⟨gb156, 3, none⟩ = some (.int .u32 0) := (blk_cell BK156.out 3).trans rfl; have hfz167_0 := blk_frozen BK156.out 0; have hfz167_1 := blk_frozen BK156.out 1; have hfz167_2 := blk_frozen BK156.out 2; have hfz167_3 := blk_frozen BK156.out 3))
                                          refine bodyPost_ret (results_ct rfl _ _ gb156 25 #[.int .i64 0, .int .u32 0, .int .u16 0, .int .u32 0] (0, 0) _ rfl (by (with_reducible repeat (first | refine blk_drewN ?_ _ | refine blk_drew ?_ | refine blk_alloc ?_ _)); refine blk_put (cs := #[.int .i64 0, .int .u32 0, .int .u16 0, .int .u32 0]) ?_ 3 _ rfl; (with_reducible repeat (first | refine blk_drewN ?_ _ | refine blk_drew ?_ | refine blk_alloc ?_ _)); refine blk_put (cs := #[.int .i64 0, .int .u32 0, .int .u16 0, .int .u32 0]) ?_ 2 _ rfl; (with_reducible repeat (first | refine blk_drewN ?_ _ | refine blk_drew ?_ | refine blk_alloc ?_ _)); refine blk_put (cs := #[.int .i64 0, .int .u32 0, .int .u16 0, .int .u32 0]) ?_ 1 _ rfl; (with_reducible repeat (first | refine blk_drewN ?_ _ | refine blk_drew ?_ | refine blk_alloc ?_ _)); refine blk_put (cs := #[.int .i64 0, .int .u32 0, .int .u16 0, .int .u32 0]) ?_ 0 _ rfl; (with_reducible repeat (first | refine blk_drewN ?_ _ | refine blk_drew ?_ | refine blk_alloc ?_ _)); exact BK156.out) Try.underlying25 rfl (by kernel_rfl)) rfl ?_
                                          exact ⟨by first | rfl | (simp [errW_none, errW_some] <;> rfl) | (simp [*, errW_none, errW_some] <;> rfl), by repeat (first | (with_reducible first | exact HB.out | apply below_alloc | apply pw_below_drewN | apply below_drew1 | refine below_set ?_ GE156.out | refine below_set ?_ GE157.out) | exact HB.out)⟩
                                        · replace c162 := Bool.eq_false_iff.mpr c162
                                          subst c162
                                          have H1 : (some (0, 0, 0, 0, 100)) = some (r1, r2, r3, r4, r5) := by rw [if_neg (show ¬ (false = true) by decide)] at H; exact H
                                          clear H
                                          have H := H1
                                          clear H1
                                          simp only [Option.some.injEq, Prod.mk.injEq] at H
                                          obtain ⟨rfl, rfl, rfl, rfl, rfl⟩ := H
                                          have hnb168 := NB157_156.out
                                          have hnc168 := NB156_157.out
                                          have hcz169_0 : wc.cell? ⟨gb157, 0, none⟩ = some (.int .i64 0) := (blk_cell BK157.out 0).trans rfl
                                          have hcz169_1 : wc.cell? ⟨gb157, 1, none⟩ = some (.int .u32 0) := (blk_cell BK157.out 1).trans rfl
                                          have hcz169_2 : wc.cell? ⟨gb157, 2, none⟩ = some (.int .u16 0) := (blk_cell BK157.out 2).trans rfl
                                          have hcz169_3 : wc.cell? ⟨gb157, 3, none⟩ = some (.int .u32 0) := (blk_cell BK157.out 3).trans rfl
                                          have hfz169_0 := blk_frozen BK157.out 0
                                          have hfz169_1 := blk_frozen BK157.out 1
                                          have hfz169_2 := blk_frozen BK157.out 2
                                          have hfz169_3 := blk_frozen BK157.out 3
                                          go_wp2_with (first | ((with_reducible refine gate_callee (f := 14) rfl ?_); refine goesL_ (some 101) rfl rfl Try.func14 (by kernel_rfl) rfl #[.agg #[.int .i64 0, .int .u32 0, .int .u16 0, .int .u32 0]] rfl (by (try simp only [List.map_toArray, List.map_cons, List.map_nil]); first | done | rfl | (simp only [List.length_drop, List.length_take]; rfl)) ?_; (with_reducible refine (bazaarref10_Right.calls kj129 0 0 0 0 false _ A161.out).mono ?_); rintro e w170 ⟨rfl, hb⟩; refine ⟨_, rfl, ?_⟩; have n0_ := Aside0.mk (blk_below (g := gb156) (o := .cells #[.int .i64 0, .int .u32 0, .int .u16 0, .int .u32 0] 25 (0, 0)) (by (with_reducible repeat (first | refine blk_drewN ?_ _ | refine blk_drew ?_ | refine blk_alloc ?_ _)); exact BK156.out) hb); have n1_ := Aside0.mk (blk_below (g := gb157) (o := .cells #[.int .i64 0, .int .u32 0, .int .u16 0, .int .u32 0] 25 (0, 0)) (by (with_reducible repeat (first | refine blk_drewN ?_ _ | refine blk_drew ?_ | refine blk_alloc ?_ _)); exact BK157.out) hb); have n2_ := Aside0.mk (below_step (by repeat (first | (with_reducible first | exact HB.out | apply below_alloc | apply pw_below_drewN | apply below_drew1 | refine below_set ?_ GE156.out | refine below_set ?_ GE157.out) | exact HB.out)) hb); clear BK156; clear BK157; clear HB; have BK156 := n0_; have BK157 := n1_; have HB := n2_; clear n0_ n1_ n2_; (try clear hb); (try clear hb2); (try clear hk); (try clear hi); have hcz171_0 : w170.cell? ⟨gb156, 0, none⟩ = some (.int .i64 0) := (blk_cell BK156.out 0).trans rfl; have hcz171_1 : w170.cell? ⟨gb156, 1, none⟩ = some (.int .u32 0) := (blk_cell BK156.out 1).trans rfl; have hcz171_2 : w170.cell? ⟨gb156, 2, none⟩ = some (.int .u16 0) := (blk_cell BK156.out 2).trans rfl; have hcz171_3 : w170.cell? ⟨gb156, 3, none⟩ = some (.int .u32 0) := (blk_cell BK156.out 3).trans rfl; have hfz171_0 := blk_frozen BK156.out 0; have hfz171_1 := blk_frozen BK156.out 1; have hfz171_2 := blk_frozen BK156.out 2; have hfz171_3 := blk_frozen BK156.out 3))
                                          refine bodyPost_ret (results_ct rfl _ _ gb156 25 #[.int .i64 0, .int .u32 0, .int .u16 0, .int .u32 0] (0, 0) _ rfl (by (with_reducible repeat (first | refine blk_drewN ?_ _ | refine blk_drew ?_ | refine blk_alloc ?_ _)); refine blk_put (cs := #[.int .i64 0, .int .u32 0, .int .u16 0, .int .u32 0]) ?_ 3 _ rfl; (with_reducible repeat (first | refine blk_drewN ?_ _ | refine blk_drew ?_ | refine blk_alloc ?_ _)); refine blk_put (cs := #[.int .i64 0, .int .u32 0, .int .u16 0, .int .u32 0]) ?_ 2 _ rfl; (with_reducible repeat (first | refine blk_drewN ?_ _ | refine blk_drew ?_ | refine blk_alloc ?_ _)); refine blk_put (cs := #[.int .i64 0, .int .u32 0, .int .u16 0, .int .u32 0]) ?_ 1 _ rfl; (with_reducible repeat (first | refine blk_drewN ?_ _ | refine blk_drew ?_ | refine blk_alloc ?_ _)); refine blk_put (cs := #[.int .i64 0, .int .u32 0, .int .u16 0, .int .u32 0]) ?_ 0 _ rfl; (with_reducible repeat (first | refine blk_drewN ?_ _ | refine blk_drew ?_ | refine blk_alloc ?_ _)); exact BK156.out) Try.underlying25 rfl (by kernel_rfl)) rfl ?_
                                          exact ⟨by first | rfl | (simp [errW_none, errW_some] <;> rfl) | (simp [*, errW_none, errW_some] <;> rfl), by repeat (first | (with_reducible first | exact HB.out | apply below_alloc | apply pw_below_drewN | apply below_drew1 | refine below_set ?_ GE156.out | refine below_set ?_ GE157.out) | exact HB.out)⟩

end Go.Proofs.Ytfncbcbhhddnpaa.K
