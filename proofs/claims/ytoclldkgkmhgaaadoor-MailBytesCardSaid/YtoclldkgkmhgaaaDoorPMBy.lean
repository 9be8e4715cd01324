/- A mail's bytes. -/
import Derived.Test.YtoclldkgkmhgaaaDoorPNum
import Derived.Test.YtoclldkgkmhgaaaDoorPMailA
import Derived.Test.YtoclldkgkmhgaaaDoorKx24
namespace Go.Proofs.YtoclldkgkmhgaaaDoor.K
open Go.RowKit Go.Proofs.YtoclldkgkmhgaaaDoorW.PrintWords Go.Proofs.YtoclldkgkmhgaaaDoorW.PrintLast Go.Proofs.YtoclldkgkmhgaaaDoorW.PrintMore
set_option linter.unusedVariables false
set_option linter.unusedSimpArgs false

theorem l1_run (n s : Int) (x7 : List S65) (x8 x9 : Int) : ∀ (j k : Nat) (x3 : List Int), j ≤ 8 → x3.length + j ≤ 100 → mail_bytes.l1 (k + j + 1) x3 ((j : Int) - 1) x7 x8 x9 n s = mail_bytes.l0 k (x3 ++ bsD n j) x7 x8 (wrap64 (x9 + 1))
  | 0, k, x3, hj, hl => by
    rw [mail_bytes.l1, if_neg (by omega)]
    simp [bsD]
  | j + 1, k, x3, hj, hl => by
    have w1 : wrap64 (8 * (((j + 1 : Nat) : Int) - 1)) = 8 * (j : Int) := by unfold wrap64; omega
    have w2 : wrap64 (((j + 1 : Nat) : Int) - 1 - 1) = (j : Int) - 1 := by unfold wrap64; omega
    have c1 : ((j + 1 : Nat) : Int) - 1 ≥ 0 := by omega
    have c2 : (0 : Int) ≤ 8 * (j : Int) := by omega
    have c3 : x3.length < 140737488355328 := by omega
    rw [mail_bytes.l1, if_pos c1, w1, if_pos c2, if_pos c3, w2]
    have := l1_run n s x7 x8 x9 j k (x3 ++ [shr .u64 n (8 * (j : Int)) % 256]) (by omega) (by simp; omega)
    rw [show k + (j + 1) = k + j + 1 by omega, this, List.append_assoc]
    rfl
theorem bytes_f (f0 f1 f2 f3 : Int) : mail_bytes.f 1200 [⟨f0, 4⟩, ⟨f1, 8⟩, ⟨f2, 2⟩, ⟨f3, 8⟩] = some (strOfNums (bsD f0 4 ++ bsD f1 8 ++ bsD f2 2 ++ bsD f3 8)) := by
  have s1 : wrap64 (4 - 1) = ((4 : Nat) : Int) - 1 := by unfold wrap64; omega
  have s2 : wrap64 (8 - 1) = ((8 : Nat) : Int) - 1 := by unfold wrap64; omega
  have s3 : wrap64 (2 - 1) = ((2 : Nat) : Int) - 1 := by unfold wrap64; omega
  have t1 : wrap64 (0 + 1) = 1 := by unfold wrap64; omega
  have t2 : wrap64 (1 + 1) = 2 := by unfold wrap64; omega
  have t3 : wrap64 (2 + 1) = 3 := by unfold wrap64; omega
  have t4 : wrap64 (3 + 1) = 4 := by unfold wrap64; omega
  obtain ⟨F, hF⟩ : ∃ F, ([⟨f0, 4⟩, ⟨f1, 8⟩, ⟨f2, 2⟩, ⟨f3, 8⟩] : List S65) = F := ⟨_, rfl⟩
  have hl : (F.length : Int) = 4 := by rw [← hF]; rfl
  have r0 : rd_T65 F 0 = ⟨f0, 4⟩ := by rw [← hF]; rfl
  have r1 : rd_T65 F 1 = ⟨f1, 8⟩ := by rw [← hF]; rfl
  have r2 : rd_T65 F 2 = ⟨f2, 2⟩ := by rw [← hF]; rfl
  have r3 : rd_T65 F 3 = ⟨f3, 8⟩ := by rw [← hF]; rfl
  rw [hF]
  unfold mail_bytes.f
  rw [hl, mail_bytes.l0, if_pos (by decide), if_pos (by decide), hl, if_pos (by decide), r0]
  show mail_bytes.l1 (1194 + 4 + 1) [] (wrap64 (4 - 1)) F 4 0 f0 4 = _
  rw [s1, l1_run f0 4 F 4 0 4 1194 [] (by omega) (by simp), t1, List.nil_append, mail_bytes.l0, if_pos (by decide), if_pos (by decide), hl, if_pos (by decide), r1]
  show mail_bytes.l1 (1184 + 8 + 1) (bsD f0 4) (wrap64 (8 - 1)) F 4 1 f1 8 = _
  rw [s2, l1_run f1 8 F 4 1 8 1184 _ (by omega) (by rw [bsD_len]; omega), t2, mail_bytes.l0, if_pos (by decide), if_pos (by decide), hl, if_pos (by decide), r2]
  show mail_bytes.l1 (1180 + 2 + 1) (bsD f0 4 ++ bsD f1 8) (wrap64 (2 - 1)) F 4 2 f2 2 = _
  rw [s3, l1_run f2 2 F 4 2 2 1180 _ (by omega) (by rw [List.length_append, bsD_len, bsD_len]; omega), t3, mail_bytes.l0, if_pos (by decide), if_pos (by decide), hl, if_pos (by decide), r3]
  show mail_bytes.l1 (1170 + 8 + 1) (bsD f0 4 ++ bsD f1 8 ++ bsD f2 2) (wrap64 (8 - 1)) F 4 3 f3 8 = _
  rw [s2, l1_run f3 8 F 4 3 8 1170 _ (by omega) (by rw [List.length_append, List.length_append, bsD_len, bsD_len, bsD_len]; omega), t4, mail_bytes.l0, if_neg (by decide)]
theorem mail_ok1 (k : Nat) (m0 m1 m2 m3 : Int) : mail_Right.f (k + 1) m0 m1 m2 m3 = some (mailOk m0 m1 m2 m3) := by
  rw [← mail_ok m0 m1 m2 m3]
  unfold mail_Right.f mail_Right.j0
  rfl
/- The bytes. -/
/-- What mail.Bytes tells. -/
def mbF (m0 m1 m2 m3 : Int) : ByteArray × Int :=
  if mailOk m0 m1 m2 m3 = true then (strOfNums (bsD (IntKind.u64.wrap m0) 4 ++ bsD (IntKind.u64.wrap m1) 8 ++ bsD (IntKind.u64.wrap m2) 2 ++ bsD (IntKind.u64.wrap m3) 8), 0) else (⟨#[]⟩, 140)
theorem mb_is (m0 m1 m2 m3 : Int) : mail_Bytes.f 1200 m0 m1 m2 m3 = some (mbF m0 m1 m2 m3) := by
  unfold mail_Bytes.f mbF
  rw [show (1200 : Nat) = 1199 + 1 from rfl, mail_ok1]
  simp only [Option.bind_some]
  by_cases hm : mailOk m0 m1 m2 m3 = true
  · rw [if_pos hm, if_pos hm, show (1199 + 1 : Nat) = 1200 from rfl, bytes_f]
    rfl
  · rw [if_neg hm, if_neg hm]
end Go.Proofs.YtoclldkgkmhgaaaDoor.K
