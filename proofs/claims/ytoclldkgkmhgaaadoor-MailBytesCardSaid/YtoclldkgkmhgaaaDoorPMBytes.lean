/- The plain law MailBytes. -/
import Derived.Test.YtoclldkgkmhgaaaDoorPMBy
import Derived.Test.YtoclldkgkmhgaaaDoorPMRight
import Derived.Test.YtoclldkgkmhgaaaDoorKx31
namespace Go.Proofs.YtoclldkgkmhgaaaDoor.K
open Go.RowKit Go.Proofs.YtoclldkgkmhgaaaDoorW.PrintWords Go.Proofs.YtoclldkgkmhgaaaDoorW.PrintLast Go.Proofs.YtoclldkgkmhgaaaDoorW.PrintMore
set_option linter.unusedVariables false
set_option linter.unusedSimpArgs false
attribute [local irreducible] numsM num64 fld

theorem refmb_is (m0 m1 m2 m3 : Int) : bazaarref14_Bytes.f 1200 m0 m1 m2 m3 = some (mbF m0 m1 m2 m3) := by
  unfold bazaarref14_Bytes.f mbF
  rw [mr_right]
  simp only [Option.bind_some]
  have p4 := fun n => rput_is n 4 1200 (by omega) (by omega)
  have p8 := fun n => rput_is n 8 1200 (by omega) (by omega)
  have p2 := fun n => rput_is n 2 1200 (by omega) (by omega)
  by_cases hm : mailOk m0 m1 m2 m3 = true
  · rw [if_pos hm, if_pos hm]
    have q4 : bazaarref03_Put.f 1200 (IntKind.u64.wrap m0) 4 = some (strOfNums (bsD (IntKind.u64.wrap m0) 4)) := p4 _
    have q8 : bazaarref03_Put.f 1200 (IntKind.u64.wrap m1) 8 = some (strOfNums (bsD (IntKind.u64.wrap m1) 8)) := p8 _
    have q2 : bazaarref03_Put.f 1200 (IntKind.u64.wrap m2) 2 = some (strOfNums (bsD (IntKind.u64.wrap m2) 2)) := p2 _
    have q9 : bazaarref03_Put.f 1200 (IntKind.u64.wrap m3) 8 = some (strOfNums (bsD (IntKind.u64.wrap m3) 8)) := p8 _
    rw [q4, q8, q2, q9]
    simp only [Option.bind_some, str_append, str_size, List.length_append, bsD_len]
    rw [if_pos (by decide), if_pos (by decide), if_pos (by decide)]
  · rw [if_neg hm, if_neg hm]
theorem refmp_is (s : ByteArray) (hs : s.size ≤ 1000) : bazaarref14_Parse.f 1200 s = mail_Parse.f s := by
  unfold bazaarref14_Parse.f mail_Parse.f mpF
  by_cases h : s.size = 22
  · have g1 : (s.size : Int) = 22 := by omega
    have g2 : (4 : Int) ≤ (s.size : Int) := by omega
    have g3 : (12 : Int) ≤ (s.size : Int) := by omega
    have g4 : (14 : Int) ≤ (s.size : Int) := by omega
    have g5 : (22 : Int) ≤ (s.size : Int) := by omega
    have h0 := rget_is s 1200 0 4 (by omega) (by omega) (by omega)
    have h1 := rget_is s 1200 4 8 (by omega) (by omega) (by omega)
    have h2 := rget_is s 1200 12 2 (by omega) (by omega) (by omega)
    have h3 := rget_is s 1200 14 8 (by omega) (by omega) (by omega)
    rw [← numsM_0] at h0
    rw [← numsM_1] at h1
    rw [← numsM_2] at h2
    rw [← numsM_3] at h3
    simp only [Nat.reduceAdd] at h0 h1 h2 h3
    generalize numsM s 0 = v0 at *
    generalize numsM s 1 = v1 at *
    generalize numsM s 2 = v2 at *
    generalize numsM s 3 = v3 at *
    simp [h, h0, h1, h2, h3, mr_right]
    by_cases hm : mailOk (v0 % 4294967296) (wrap64 v1) (IntKind.u16.wrap v2) (wrap64 v3) = true
    · rw [if_pos hm, if_pos hm]
    · rw [if_neg hm, if_neg hm]
  · have g1 : ¬ (s.size : Int) = 22 := by omega
    rw [if_neg g1, if_neg h]
theorem mailbytes_f (m0 m1 m2 m3 : Int) (s : ByteArray) (ws : s.size ≤ 140737488351232) : bazaarlaw14_MailBytes.f 1200 m0 m1 m2 m3 s = some true := by
  unfold bazaarlaw14_MailBytes.f
  have hm : 0 ≤ mn (s.size : Int) 40 ∧ mn (s.size : Int) 40 ≤ s.size ∧ mn (s.size : Int) 40 ≤ 40 := by unfold mn; split <;> omega
  have hu : (s.extract 0 (mn (s.size : Int) 40).toNat).size ≤ 40 := by rw [ByteArray.size_extract]; omega
  rw [shown14_f]
  simp only [Option.bind_some]
  rw [if_pos hm.1, if_pos hm.2.1]
  generalize s.extract 0 (mn (s.size : Int) 40).toNat = u at hu
  rw [mb_is, refmb_is, refmp_is u (by omega), show (1200 : Nat) = 1199 + 1 from rfl, mail_ok1, mr_right]
  have hp : ∃ p, mail_Parse.f u = some p := by
    unfold mail_Parse.f
    split
    · exact ⟨_, rfl⟩
    · exact ⟨_, rfl⟩
  obtain ⟨p, hp⟩ := hp
  rw [hp]
  generalize mbF m0 m1 m2 m3 = q
  simp
end Go.Proofs.YtoclldkgkmhgaaaDoor.K
