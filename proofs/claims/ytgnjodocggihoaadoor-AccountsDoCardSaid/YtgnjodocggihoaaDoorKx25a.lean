-- Printed by a program of this session (a turned copy of the print); what it takes as given stands in the seat's own texts.
import Derived.Test.YtgnjodocggihoaaDoorKx0
import Derived.Test.YtgnjodocggihoaaDoorKx1
import Derived.Test.YtgnjodocggihoaaDoorKx7
import Derived.Test.YtgnjodocggihoaaDoorCRef
import Derived.Test.YtgnjodocggihoaaDoorKx20
import Derived.Test.YtgnjodocggihoaaDoorKx24
import Derived.Test.YtgnjodocggihoaaDoorAAre
namespace Go.Proofs.YtgnjodocggihoaaDoor.K
open Go.RowKit Go.Proofs.YtgnjodocggihoaaDoorW.PrintWords Go.Proofs.YtgnjodocggihoaaDoorW.PrintLast Go.Proofs.YtgnjodocggihoaaDoorW.PrintMore
attribute [local go_sem] max2_int min2_int max_two min_two max_three min_three max_four min_four   -- for this text's walks alone
set_option linter.unusedVariables false
set_option linter.unusedSimpArgs false

attribute [local go_sem high] eqA23
/-! ### bazaarlaw13_AccountsDo: function 5 -/
def bazaarlaw13_AccountsDo.f (k : Nat) (a0_0 : Int) (a0_1 : Int) (a1_0 : Int) (a1_1 : Int) (a2 : Int) : Option (Bool) := (bazaarlaw13_shown.f).bind fun t216 => ((accounts_Deposit.f a0_0 a0_1 a2).bind fun bt217 => ((bazaarref13_Deposit.f k a0_0 a0_1 a2).bind fun bt221 => ((accounts_Withdraw.f a0_0 a0_1 a2).bind fun bt225 => ((bazaarref13_Withdraw.f k a0_0 a0_1 a2).bind fun bt229 => ((accounts_Earn.f a0_0 a0_1 a2).bind fun bt233 => ((bazaarref13_Earn.f k a0_0 a0_1 a2).bind fun bt237 => ((accounts_Spend.f a0_0 a0_1 a2).bind fun bt241 => ((bazaarref13_Spend.f k a0_0 a0_1 a2).bind fun bt245 => ((accounts_Pay.f a0_0 a0_1 a1_0 a1_1 a2).bind fun bt249 => ((bazaarref13_Pay.f k a0_0 a0_1 a1_0 a1_1 a2).bind fun bt256 => (if t216 = true then ((accounts_Right.f a0_0 a0_1).bind fun t263 => ((bazaarref13_Right.f k a0_0 a0_1).bind fun t264 => (if (t263 == t264) = true then (if (bt217.1 == bt221.1 && (bt217.2.1 == bt221.2.1)) = true then (if bt217.2.2 = bt221.2.2 then (if (bt225.1 == bt229.1 && (bt225.2.1 == bt229.2.1)) = true then (if bt225.2.2 = bt229.2.2 then (if (bt233.1 == bt237.1 && (bt233.2.1 == bt237.2.1)) = true then (if bt233.2.2 = bt237.2.2 then (if (bt241.1 == bt245.1 && (bt241.2.1 == bt245.2.1)) = true then (if bt241.2.2 = bt245.2.2 then (if (bt249.1 == bt256.1 && (bt249.2.1 == bt256.2.1)) = true then (if (bt249.2.2.1 == bt256.2.2.1 && (bt249.2.2.2.1 == bt256.2.2.2.1)) = true then (some (bt249.2.2.2.2 == bt256.2.2.2.2)) else (some false)) else (some false)) else (some false)) else (some false)) else (some false)) else (some false)) else (some false)) else (some false)) else (some false)) else (some false)) else (some false)))) else (some false))))))))))))
theorem bazaarlaw13_AccountsDo.mono : ∀ a0 a1 a2 a3 a4 k, LeO (bazaarlaw13_AccountsDo.f k a0 a1 a2 a3 a4) (bazaarlaw13_AccountsDo.f (k + 1) a0 a1 a2 a3 a4) := by
 intro a0 a1 a2 a3 a4 k
 unfold bazaarlaw13_AccountsDo.f
 repeat' first
   | (with_reducible exact bazaarref13_Deposit.mono _ _ _ _)
   | (with_reducible exact bazaarref13_Earn.mono _ _ _ _)
   | (with_reducible exact bazaarref13_Pay.mono _ _ _ _ _ _)
   | (with_reducible exact bazaarref13_Right.mono _ _ _)
   | (with_reducible exact bazaarref13_Spend.mono _ _ _ _)
   | (with_reducible exact bazaarref13_Withdraw.mono _ _ _ _)
   | (with_reducible exact LeO.refl _)
   | (with_reducible exact LeO.none _)
   | (with_reducible refine LeO.ite ?_ ?_)
   | (with_reducible refine LeO.bind ?_ (fun _ => ?_))
   | exact bazaarref13_Deposit.mono _ _ _ _
   | exact bazaarref13_Earn.mono _ _ _ _
   | exact bazaarref13_Pay.mono _ _ _ _ _ _
   | exact bazaarref13_Right.mono _ _ _
   | exact bazaarref13_Spend.mono _ _ _ _
   | exact bazaarref13_Withdraw.mono _ _ _ _
   | exact LeO.none _
   | refine LeO.ite ?_ ?_
   | refine LeO.bind ?_ (fun _ => ?_)
def bazaarlaw13_AccountsDo.T12 : Bool × List (List Nat × List Nat) := (true, [([], []), ([0], [0]), ([1], [1]), ([2, 1, 1], [1, 2]), ([1], [1]), ([4, 3, 1], [1, 4]), ([3, 5, 1], [1, 3, 5]), ([1, 6], [1, 6]), ([7, 5], [7]), ([8], [8]), ([8], [8]), ([9, 10, 8], [8, 9, 10]), ([8, 11], [8, 11]), ([12, 8], [12]), ([13], [13]), ([13], [13]), ([14, 15, 13], [13, 14, 15]), ([13, 16], [13, 16]), ([17, 13], [17]), ([18], [18]), ([18], [18]), ([19, 20, 18], [18, 19, 20]), ([18, 21], [18, 21]), ([22, 18], [22]), ([23], [23]), ([23], [23]), ([24, 25, 23], [23, 24, 25]), ([23, 26], [23, 26]), ([27, 23], [27]), ([28], [28]), ([28], [28]), ([29, 30, 28], [28, 29, 30]), ([28, 31], [28, 31]), ([32, 28], [32]), ([33], [33]), ([33], [33]), ([34, 35, 33], [33, 34, 35]), ([33, 36], [33, 36]), ([37, 33], [37]), ([38], [38]), ([38], [38]), ([39, 40, 38], [38, 39, 40]), ([38, 41], [38, 41]), ([42, 38], [42]), ([43], [43]), ([43], [43]), ([44, 45, 43], [43, 44, 45]), ([43, 46], [43, 46]), ([47, 43], [47]), ([48], [48]), ([48], [48]), ([49, 50, 48], [48, 49, 50]), ([48, 51], [48, 51]), ([52, 48], [52]), ([53], [53]), ([53], [53]), ([54, 55, 53], [53, 54, 55]), ([53, 56], [53, 56]), ([57, 53], [57]), ([58], [58]), ([58], [58]), ([59, 60, 58], [58, 59, 60]), ([58, 61], [58, 61]), ([62, 58, 0, 1, 2, 3, 4, 5, 6, 7, 8, 9, 10, 11, 12, 13, 14, 15, 16, 17, 18, 19, 20, 21, 22, 23, 24, 25, 26, 27, 28, 29, 30, 31, 32, 33, 34, 35, 36, 37, 38, 39, 40, 41, 42, 43, 44, 45, 46, 47, 48, 49, 50, 51, 52, 53, 54, 55, 56, 57, 58, 59, 60, 61, 62], [62])])
def bazaarlaw13_AccountsDo.B12 : List Nat := [0, 1, 3, 7, 3, 31, 63, 127, 255, 511, 511, 2047, 4095, 8191, 16383, 16383, 65535, 131071, 262143, 524287, 524287, 2097151, 4194303, 8388607, 16777215, 16777215, 67108863, 134217727, 268435455, 536870911, 536870911, 2147483647, 4294967295, 8589934591, 17179869183, 17179869183, 68719476735, 137438953471, 274877906943, 549755813887, 549755813887, 2199023255551, 4398046511103, 8796093022207, 17592186044415, 17592186044415, 70368744177663, 140737488355327, 281474976710655, 562949953421311, 562949953421311, 2251799813685247, 4503599627370495, 9007199254740991, 18014398509481983, 18014398509481983, 72057594037927935, 144115188075855871, 288230376151711743, 576460752303423487, 576460752303423487, 2305843009213693951, 4611686018427387903, 9223372036854775807]
theorem bazaarlaw13_AccountsDo.tab12 : rtab .any (opsOf Tryd.f5 12) = bazaarlaw13_AccountsDo.T12 := by kernel_rfl
theorem bazaarlaw13_AccountsDo.bits12 : waitsOk bazaarlaw13_AccountsDo.T12.2 bazaarlaw13_AccountsDo.B12 = true := by kernel_rfl
end Go.Proofs.YtgnjodocggihoaaDoor.K
