/- The plain law ShopBytes. -/
import Derived.Test.YtoclldkgkmhgaaaDoorPSBy
import Derived.Test.YtoclldkgkmhgaaaDoorPSRight
import Derived.Test.YtoclldkgkmhgaaaDoorKx71
namespace Go.Proofs.YtoclldkgkmhgaaaDoor.K
open Go.RowKit Go.Proofs.YtoclldkgkmhgaaaDoorW.PrintWords Go.Proofs.YtoclldkgkmhgaaaDoorW.PrintLast Go.Proofs.YtoclldkgkmhgaaaDoorW.PrintMore
attribute [local irreducible] numsP num64 fld
set_option linter.unusedVariables false
set_option linter.unusedSimpArgs false

theorem refsb_is (x0 x1 x2 x3 : Int) : bazaarref15_Bytes.f 1200 x0 x1 x2 x3 = some (sbF x0 x1 x2 x3) := by
  unfold bazaarref15_Bytes.f sbF
  rw [sd_right]
  simp only [Option.bind_some]
  have p4 := fun n => rput_is n 4 1200 (by omega) (by omega)
  have p8 := fun n => rput_is n 8 1200 (by omega) (by omega)
  have p2 := fun n => rput_is n 2 1200 (by omega) (by omega)
  by_cases hm : listOk x0 x1 x2 x3 = true
  · rw [if_pos hm, if_pos hm]
    have q4 : bazaarref03_Put.f 1200 (IntKind.u64.wrap x0) 4 = some (strOfNums (bsD (IntKind.u64.wrap x0) 4)) := p4 _
    have q2 : bazaarref03_Put.f 1200 (IntKind.u64.wrap x1) 2 = some (strOfNums (bsD (IntKind.u64.wrap x1) 2)) := p2 _
    have q8 : bazaarref03_Put.f 1200 (IntKind.u64.wrap x2) 8 = some (strOfNums (bsD (IntKind.u64.wrap x2) 8)) := p8 _
    have q9 : bazaarref03_Put.f 1200 (IntKind.u64.wrap x3) 8 = some (strOfNums (bsD (IntKind.u64.wrap x3) 8)) := p8 _
    rw [q4, q2, q8, q9]
    simp only [Option.bind_some, str_append, str_size, List.length_append, bsD_len]
    rw [if_pos (by decide), if_pos (by decide), if_pos (by decide)]
  · rw [if_neg hm, if_neg hm]
theorem refsp_is (s : ByteArray) (hs : s.size ≤ 1000) : bazaarref15_Parse.f 1200 s = shop_Parse.f s := by
  unfold bazaarref15_Parse.f shop_Parse.f spF
  by_cases h : s.size = 22
  · have h0 := rget_is s 1200 0 4 (by omega) (by omega) (by omega)
    have h1 := rget_is s 1200 4 2 (by omega) (by omega) (by omega)
    have h2 := rget_is s 1200 6 8 (by omega) (by omega) (by omega)
    have h3 := rget_is s 1200 14 8 (by omega) (by omega) (by omega)
    rw [← numsP_0] at h0
    rw [← numsP_1] at h1
    rw [← numsP_2] at h2
    rw [← numsP_3] at h3
    simp only [Nat.reduceAdd] at h0 h1 h2 h3
    generalize numsP s 0 = v0 at *
    generalize numsP s 1 = v1 at *
    generalize numsP s 2 = v2 at *
    generalize numsP s 3 = v3 at *
    simp [h, h0, h1, h2, h3, sd_right]
    by_cases hm : listOk (v0 % 4294967296) (IntKind.u16.wrap v1) (wrap64 v2) (wrap64 v3) = true
    · rw [if_pos hm, if_pos hm]
    · rw [if_neg hm, if_neg hm]
  · have g1 : ¬ (s.size : Int) = 22 := by omega
    rw [if_neg g1, if_neg h]
theorem shopbytes_f (x0 x1 x2 x3 : Int) (s : ByteArray) (ws : s.size ≤ 140737488351232) : bazaarlaw15_ShopBytes.f 1200 x0 x1 x2 x3 s = some true := by
  unfold bazaarlaw15_ShopBytes.f
  have hm : 0 ≤ mn (s.size : Int) 40 ∧ mn (s.size : Int) 40 ≤ s.size ∧ mn (s.size : Int) 40 ≤ 40 := by unfold mn; split <;> omega
  have hu : (s.extract 0 (mn (s.size : Int) 40).toNat).size ≤ 40 := by rw [ByteArray.size_extract]; omega
  rw [shown15_f 1200 (by omega)]
  simp only [Option.bind_some]
  rw [if_pos hm.1, if_pos hm.2.1]
  generalize s.extract 0 (mn (s.size : Int) 40).toNat = u at hu
  have hr : shop_Right.f 1200 x0 x1 x2 x3 = some (listOk x0 x1 x2 x3) := shop_ok_more x0 x1 x2 x3 1196
  rw [sb_is, refsb_is, refsp_is u (by omega), hr, sd_right]
  have hp : ∃ p, shop_Parse.f u = some p := by
    unfold shop_Parse.f
    split
    · exact ⟨_, rfl⟩
    · exact ⟨_, rfl⟩
  obtain ⟨p, hp⟩ := hp
  rw [hp]
  generalize sbF x0 x1 x2 x3 = q
  simp
end Go.Proofs.YtoclldkgkmhgaaaDoor.K
