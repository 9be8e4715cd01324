-- Printed by a program of this session (a turned copy of the print); what it takes as given stands in the seat's own texts.
import Derived.Test.YtgnjodocggihoaaDoorKx0
import Derived.Test.YtgnjodocggihoaaDoorKx7
import Derived.Test.YtgnjodocggihoaaDoorKx20
import Derived.Test.YtgnjodocggihoaaDoorKx24
import Derived.Test.YtgnjodocggihoaaDoorKx26
import Derived.Test.YtgnjodocggihoaaDoorGiven
namespace Go.Proofs.YtgnjodocggihoaaDoor.K
open Go.RowKit Go.Proofs.YtgnjodocggihoaaDoorW.PrintWords Go.Proofs.YtgnjodocggihoaaDoorW.PrintLast Go.Proofs.YtgnjodocggihoaaDoorW.PrintMore
attribute [local go_sem] max2_int min2_int max_two min_two max_three min_three max_four min_four   -- for this text's walks alone
set_option linter.unusedVariables false
set_option linter.unusedSimpArgs false

/-! ### bazaarlaw13_AccountsKeep: function 6 -/
def bazaarlaw13_AccountsKeep.j0 : Nat → Int → Bool → Int → Bool → Int → Int → Int → Int → Int → Int → Int → Int → Option (Bool)
 | 0, _, _, _, _, _, _, _, _, _, _, _, _ => none
 | k + 1, x2, x7, x14, x65, x267000, x267001, x268000, x268001, x283000, x283001, x284000, x284001 => if x65 = true then (some false) else (if x7 = true then (if x14 = 0 then ((bazaarlaw13_total.f x283000 x283001).bind fun t293 => ((bazaarlaw13_total.f x267000 x267001).bind fun t294 => (if (wrap64 (t293 + x2)) = t294 then ((bazaarlaw13_total.f x284000 x284001).bind fun t295 => ((bazaarlaw13_total.f x268000 x268001).bind fun t296 => (if t295 = (wrap64 (t296 + x2)) then ((accounts_Right.f x283000 x283001).bind fun t297 => (if t297 = true then ((accounts_Right.f x284000 x284001).bind fun t298 => (if t298 = true then (if x283001 = x267001 then (some (x284001 == x268001)) else (some false)) else (some false))) else (some false))) else (some false)))) else (some false)))) else (some true)) else (some false))
def bazaarlaw13_AccountsKeep.f (k : Nat) (a0_0 : Int) (a0_1 : Int) (a1_0 : Int) (a1_1 : Int) (a2 : Int) : Option (Bool) := (bazaarlaw13_shown.f).bind fun t268 => ((accounts_Deposit.f a0_0 a0_1 a2).bind fun bt269 => ((accounts_Withdraw.f a0_0 a0_1 a2).bind fun bt273 => ((accounts_Pay.f a0_0 a0_1 a1_0 a1_1 a2).bind fun bt277 => (if bt269.2.2 = 0 then ((bazaarlaw13_total.f bt269.1 bt269.2.1).bind fun t284 => ((bazaarlaw13_total.f a0_0 a0_1).bind fun t285 => (if t284 = t285 then ((accounts_Right.f bt269.1 bt269.2.1).bind fun t286 => (if t286 = true then (if bt273.2.2 = 0 then ((bazaarlaw13_total.f bt273.1 bt273.2.1).bind fun t287 => ((bazaarlaw13_total.f a0_0 a0_1).bind fun t288 => (if t287 = t288 then ((accounts_Right.f bt273.1 bt273.2.1).bind fun t289 => (bazaarlaw13_AccountsKeep.j0 k a2 t268 bt277.2.2.2.2 (!t289) a0_0 a0_1 a1_0 a1_1 bt277.1 bt277.2.1 bt277.2.2.1 bt277.2.2.2.1)) else (bazaarlaw13_AccountsKeep.j0 k a2 t268 bt277.2.2.2.2 true a0_0 a0_1 a1_0 a1_1 bt277.1 bt277.2.1 bt277.2.2.1 bt277.2.2.2.1)))) else (bazaarlaw13_AccountsKeep.j0 k a2 t268 bt277.2.2.2.2 false a0_0 a0_1 a1_0 a1_1 bt277.1 bt277.2.1 bt277.2.2.1 bt277.2.2.2.1)) else (bazaarlaw13_AccountsKeep.j0 k a2 t268 bt277.2.2.2.2 true a0_0 a0_1 a1_0 a1_1 bt277.1 bt277.2.1 bt277.2.2.1 bt277.2.2.2.1))) else (bazaarlaw13_AccountsKeep.j0 k a2 t268 bt277.2.2.2.2 true a0_0 a0_1 a1_0 a1_1 bt277.1 bt277.2.1 bt277.2.2.1 bt277.2.2.2.1)))) else (if bt273.2.2 = 0 then ((bazaarlaw13_total.f bt273.1 bt273.2.1).bind fun t290 => ((bazaarlaw13_total.f a0_0 a0_1).bind fun t291 => (if t290 = t291 then ((accounts_Right.f bt273.1 bt273.2.1).bind fun t292 => (bazaarlaw13_AccountsKeep.j0 k a2 t268 bt277.2.2.2.2 (!t292) a0_0 a0_1 a1_0 a1_1 bt277.1 bt277.2.1 bt277.2.2.1 bt277.2.2.2.1)) else (bazaarlaw13_AccountsKeep.j0 k a2 t268 bt277.2.2.2.2 true a0_0 a0_1 a1_0 a1_1 bt277.1 bt277.2.1 bt277.2.2.1 bt277.2.2.2.1)))) else (bazaarlaw13_AccountsKeep.j0 k a2 t268 bt277.2.2.2.2 false a0_0 a0_1 a1_0 a1_1 bt277.1 bt277.2.1 bt277.2.2.1 bt277.2.2.2.1))))))
theorem bazaarlaw13_AccountsKeep.mono_l : ∀ k, (∀ y0 y1 y2 y3 y4 y5 y6 y7 y8 y9 y10 y11, LeO (bazaarlaw13_AccountsKeep.j0 k y0 y1 y2 y3 y4 y5 y6 y7 y8 y9 y10 y11) (bazaarlaw13_AccountsKeep.j0 (k + 1) y0 y1 y2 y3 y4 y5 y6 y7 y8 y9 y10 y11))
 | 0 => fun _ _ _ _ _ _ _ _ _ _ _ _ r h => by simp [bazaarlaw13_AccountsKeep.j0] at h
 | k + 1 => by
  have ih0 := bazaarlaw13_AccountsKeep.mono_l k
  ·intro y0 y1 y2 y3 y4 y5 y6 y7 y8 y9 y10 y11
   unfold bazaarlaw13_AccountsKeep.j0
   repeat' first
   | (with_reducible exact ih0 _ _ _ _ _ _ _ _ _ _ _ _)
   | (with_reducible exact LeO.refl _)
   | (with_reducible exact LeO.none _)
   | (with_reducible refine LeO.ite ?_ ?_)
   | (with_reducible refine LeO.bind ?_ (fun _ => ?_))
   | exact ih0 _ _ _ _ _ _ _ _ _ _ _ _
   | exact LeO.none _
   | refine LeO.ite ?_ ?_
   | refine LeO.bind ?_ (fun _ => ?_)
theorem bazaarlaw13_AccountsKeep.mono : ∀ a0 a1 a2 a3 a4 k, LeO (bazaarlaw13_AccountsKeep.f k a0 a1 a2 a3 a4) (bazaarlaw13_AccountsKeep.f (k + 1) a0 a1 a2 a3 a4) := by
 intro a0 a1 a2 a3 a4 k
 have ih0 := bazaarlaw13_AccountsKeep.mono_l k
 unfold bazaarlaw13_AccountsKeep.f
 repeat' first
   | (with_reducible exact ih0 _ _ _ _ _ _ _ _ _ _ _ _)
   | (with_reducible exact LeO.refl _)
   | (with_reducible exact LeO.none _)
   | (with_reducible refine LeO.ite ?_ ?_)
   | (with_reducible refine LeO.bind ?_ (fun _ => ?_))
   | exact ih0 _ _ _ _ _ _ _ _ _ _ _ _
   | exact LeO.none _
   | refine LeO.ite ?_ ?_
   | refine LeO.bind ?_ (fun _ => ?_)
def bazaarlaw13_AccountsKeep.T5 : Bool × List (List Nat × List Nat) := (true, [([], []), ([0], [0]), ([1], [1]), ([2], [2]), ([3, 2, 2], [2, 3]), ([2], [2]), ([5, 4, 2], [2, 5]), ([4, 6, 2], [2, 4, 6]), ([7, 6, 2], [2, 7]), ([8], [8]), ([9, 8, 8], [8, 9]), ([10, 8], [8, 10]), ([8, 11, 2], [2, 8, 11]), ([2, 12], [2, 12]), ([13, 10], [13]), ([14], [14]), ([15, 14], [14, 15]), ([16, 14, 14], [14, 16]), ([17], [17]), ([18, 17, 17], [17, 18]), ([17], [17]), ([20, 19, 17], [17, 20]), ([19, 21, 17], [17, 19, 21]), ([22, 21, 17], [17, 22]), ([23], [23]), ([24, 23, 23], [23, 24]), ([25, 23], [23, 25]), ([23, 26, 17], [17, 23, 26]), ([17, 27, 14], [14, 17, 27]), ([14, 28], [14, 28])])
def bazaarlaw13_AccountsKeep.B5 : List Nat := [0, 1, 3, 7, 15, 7, 63, 127, 255, 511, 1023, 2047, 4095, 8191, 16383, 32767, 65535, 131071, 262143, 524287, 262143, 2097151, 4194303, 8388607, 16777215, 33554431, 67108863, 134217727, 268435455, 536870911]
theorem bazaarlaw13_AccountsKeep.tab5 : rtab .any (opsOf Tryd.f6 5) = bazaarlaw13_AccountsKeep.T5 := by kernel_rfl
theorem bazaarlaw13_AccountsKeep.bits5 : waitsOk bazaarlaw13_AccountsKeep.T5.2 bazaarlaw13_AccountsKeep.B5 = true := by kernel_rfl
def bazaarlaw13_AccountsKeep.T7 : Bool × List (List Nat × List Nat) := (true, [([], []), ([0], [0]), ([1], [1]), ([2, 1], [1, 2]), ([3, 1, 1], [1, 3]), ([4], [4]), ([5, 4, 4], [4, 5]), ([4], [4]), ([6, 7, 4], [4, 6, 7]), ([4], [4]), ([9, 6, 4], [4, 9]), ([8, 10, 4], [4, 8, 10]), ([11, 10, 4], [4, 11]), ([12], [12]), ([13, 12, 12], [12, 13]), ([12], [12]), ([15, 14, 12], [12, 15]), ([12], [12]), ([16, 17, 12], [12, 16, 17]), ([14, 18, 12], [12, 14, 18]), ([12, 19, 4], [4, 12, 19]), ([20, 16, 4], [4, 20]), ([21], [21]), ([22, 21, 21], [21, 22]), ([21, 23, 4], [4, 21, 23]), ([24, 23, 4], [4, 24]), ([25], [25]), ([26, 25, 25], [25, 26]), ([25, 27, 4], [4, 25, 27]), ([28, 27, 4], [4, 28]), ([29], [29]), ([30, 29], [29, 30]), ([29], [29]), ([32, 29], [29, 32]), ([31, 33, 29], [29, 31, 33]), ([29, 34, 4], [4, 29, 34]), ([35, 29, 4], [4, 35]), ([36], [36]), ([37, 36], [36, 37]), ([36], [36]), ([39, 36], [36, 39]), ([38, 40, 36], [36, 38, 40]), ([36, 41, 4], [4, 36, 41]), ([4, 42, 1], [1, 4, 42]), ([1, 43], [1, 43]), ([44, 36, 0, 1, 2, 3, 4, 5, 6, 7, 8, 9, 10, 11, 12, 13, 14, 15, 16, 17, 18, 19, 20, 21, 22, 23, 24, 25, 26, 27, 28, 29, 30, 31, 32, 33, 34, 35, 36, 37, 38, 39, 40, 41, 42, 43, 44], [44])])
def bazaarlaw13_AccountsKeep.B7 : List Nat := [0, 1, 3, 7, 15, 31, 63, 31, 255, 31, 639, 2047, 4095, 8191, 16383, 8191, 65535, 8191, 262143, 524287, 1048575, 2097151, 4194303, 8388607, 16777215, 33554431, 67108863, 134217727, 268435455, 536870911, 1073741823, 2147483647, 1073741823, 5368709119, 17179869183, 34359738367, 68719476735, 137438953471, 274877906943, 137438953471, 687194767359, 2199023255551, 4398046511103, 8796093022207, 17592186044415, 35184372088831]
theorem bazaarlaw13_AccountsKeep.tab7 : rtab .any (opsOf Tryd.f6 7) = bazaarlaw13_AccountsKeep.T7 := by kernel_rfl
theorem bazaarlaw13_AccountsKeep.bits7 : waitsOk bazaarlaw13_AccountsKeep.T7.2 bazaarlaw13_AccountsKeep.B7 = true := by kernel_rfl
end Go.Proofs.YtgnjodocggihoaaDoor.K
