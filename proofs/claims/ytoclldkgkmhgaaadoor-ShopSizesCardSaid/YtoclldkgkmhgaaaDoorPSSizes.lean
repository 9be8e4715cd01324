/- The plain law ShopSizes. -/
import Derived.Test.YtoclldkgkmhgaaaDoorPSBy
import Derived.Test.YtoclldkgkmhgaaaDoorKx72
namespace Go.Proofs.YtoclldkgkmhgaaaDoor.K
open Go.RowKit Go.Proofs.YtoclldkgkmhgaaaDoorW.PrintWords Go.Proofs.YtoclldkgkmhgaaaDoorW.PrintLast Go.Proofs.YtoclldkgkmhgaaaDoorW.PrintMore
set_option linter.unusedVariables false
set_option linter.unusedSimpArgs false

theorem shopsizes_f (x0 x1 x2 x3 : Int) : bazaarlaw15_ShopSizes.f 1200 x0 x1 x2 x3 = some true := by
  unfold bazaarlaw15_ShopSizes.f
  have hr : shop_Right.f 1200 x0 x1 x2 x3 = some (listOk x0 x1 x2 x3) := shop_ok_more x0 x1 x2 x3 1196
  rw [shown15_f 1200 (by omega), sb_is, hr]
  unfold sbF
  simp only [Option.bind_some]
  by_cases hm : listOk x0 x1 x2 x3 = true
  · obtain ⟨f0, f1, f2, f3, f4, f5⟩ := list_fields hm
    obtain ⟨n, rfl⟩ : ∃ n : Nat, x0 = (n : Int) := ⟨x0.toNat, by omega⟩
    have hw : IntKind.u64.wrap (n : Int) = (n : Int) := by rw [IntKind.wrap_u64]; omega
    rw [if_pos hm]
    simp only [if_true]
    rw [hw]
    obtain ⟨L, hL⟩ : ∃ L, bsD (n : Int) 4 ++ bsD (IntKind.u64.wrap x1) 2 ++ bsD (IntKind.u64.wrap x2) 8 ++ bsD (IntKind.u64.wrap x3) 8 = L := ⟨_, rfl⟩
    have hlen : L.length = 22 := by rw [← hL]; simp [bsD_len]
    have hb : ∀ (j : Nat) (hj : j < 4), bt (strOfNums L) ((3 - j : Nat) : Int) = byteAt (n : Int) j := by
      intro j hj
      have hg : L[3 - j]'(by omega) = byteAt (n : Int) j := by
        subst hL
        match j, hj with
        | 0, _ => rfl
        | 1, _ => rfl
        | 2, _ => rfl
        | 3, _ => rfl
      rw [bt_str L (3 - j) (by omega) (by rw [hg]; unfold byteAt; omega), hg]
    rw [hL, str_size, hlen]
    have b0 := hb 3 (by omega)
    have b1 := hb 2 (by omega)
    have b2 := hb 1 (by omega)
    have b3 := hb 0 (by omega)
    rw [byte_nat n _ (by omega)] at b0 b1 b2 b3
    have key := four_or n (by omega) (bt (strOfNums L) 0) (bt (strOfNums L) 1) (bt (strOfNums L) 2) (bt (strOfNums L) 3) (b0.trans (by omega)) (b1.trans (by omega)) (b2.trans (by omega)) (b3.trans (by omega))
    rw [if_pos (by decide), if_pos (by decide), if_pos (by decide), if_pos (by decide), if_pos (by decide), key]
    simp
  · rw [if_neg hm]
    simp [hm]
end Go.Proofs.YtoclldkgkmhgaaaDoor.K
