/- A listing's bytes. -/
import Derived.Test.YtoclldkgkmhgaaaDoorPNum
import Derived.Test.YtoclldkgkmhgaaaDoorPShopA
namespace Go.Proofs.YtoclldkgkmhgaaaDoor.K
open Go.RowKit Go.Proofs.YtoclldkgkmhgaaaDoorW.PrintWords Go.Proofs.YtoclldkgkmhgaaaDoorW.PrintLast Go.Proofs.YtoclldkgkmhgaaaDoorW.PrintMore
set_option linter.unusedVariables false
set_option linter.unusedSimpArgs false

theorem bytesS_bsD (n : Int) : ∀ j, bytesS n j = bsD n j
  | 0 => rfl
  | j + 1 => by rw [bytesS, bsD, bytesS_bsD n j]; rfl
/-- What shop.Bytes tells. -/
def sbF (x0 x1 x2 x3 : Int) : ByteArray × Int :=
  if listOk x0 x1 x2 x3 = true then (strOfNums (bsD (IntKind.u64.wrap x0) 4 ++ bsD (IntKind.u64.wrap x1) 2 ++ bsD (IntKind.u64.wrap x2) 8 ++ bsD (IntKind.u64.wrap x3) 8), 0) else (⟨#[]⟩, 150)
theorem sb_is (x0 x1 x2 x3 : Int) : shop_Bytes.f x0 x1 x2 x3 = some (sbF x0 x1 x2 x3) := by
  unfold shop_Bytes.f sbF listB
  rw [bytesS_bsD, bytesS_bsD, bytesS_bsD, bytesS_bsD]
  by_cases h : listOk x0 x1 x2 x3 = true
  · rw [if_pos h, if_pos h]
    rfl
  · rw [if_neg h, if_neg h]
theorem shop_ok_more (x0 x1 x2 x3 : Int) : ∀ d, shop_Right.f (4 + d) x0 x1 x2 x3 = some (listOk x0 x1 x2 x3)
  | 0 => shop_ok x0 x1 x2 x3
  | d + 1 => shop_Right.mono x0 x1 x2 x3 (4 + d) _ (shop_ok_more x0 x1 x2 x3 d)
theorem numsP_0 (s : ByteArray) : numsP s 0 = num64 (s.data.toList.drop 0) 4 := by
  unfold numsP
  rw [show atL 0 = 0 from rfl, show szL 0 = 4 from rfl]
theorem numsP_1 (s : ByteArray) : numsP s 1 = num64 (s.data.toList.drop 4) 2 := by
  unfold numsP
  rw [show atL 1 = 4 from rfl, show szL 1 = 2 from rfl]
theorem numsP_2 (s : ByteArray) : numsP s 2 = num64 (s.data.toList.drop 6) 8 := by
  unfold numsP
  rw [show atL 2 = 6 from rfl, show szL 2 = 8 from rfl]
theorem numsP_3 (s : ByteArray) : numsP s 3 = num64 (s.data.toList.drop 14) 8 := by
  unfold numsP
  rw [show atL 3 = 14 from rfl, show szL 3 = 8 from rfl]
end Go.Proofs.YtoclldkgkmhgaaaDoor.K
