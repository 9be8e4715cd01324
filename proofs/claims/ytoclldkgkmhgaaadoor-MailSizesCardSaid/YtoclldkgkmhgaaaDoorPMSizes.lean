/- The plain law MailSizes. -/
import Derived.Test.YtoclldkgkmhgaaaDoorPMail
import Derived.Test.YtoclldkgkmhgaaaDoorKx32
namespace Go.Proofs.YtoclldkgkmhgaaaDoor.K
open Go.RowKit Go.Proofs.YtoclldkgkmhgaaaDoorW.PrintWords Go.Proofs.YtoclldkgkmhgaaaDoorW.PrintLast Go.Proofs.YtoclldkgkmhgaaaDoorW.PrintMore
set_option linter.unusedVariables false
set_option linter.unusedSimpArgs false

def byteAt (n : Int) (j : Nat) : Int := shr .u64 n (8 * (j : Int)) % 256
/-- The last j bytes of a number, the greatest first. -/
def bsD (n : Int) : Nat → List Int
  | 0 => []
  | j + 1 => byteAt n j :: bsD n j
theorem bsD_len (n : Int) : ∀ j, (bsD n j).length = j
  | 0 => rfl
  | j + 1 => by simp [bsD, bsD_len n j]
theorem bsD_range (n : Int) : ∀ j, ∀ x ∈ bsD n j, 0 ≤ x ∧ x < 256
  | 0, x, h => by simp [bsD] at h
  | j + 1, x, h => by
    rcases List.mem_cons.1 h with rfl | h
    · unfold byteAt; omega
    · exact bsD_range n j x h
theorem l1_run (n s : Int) (x7 : List S65) (x8 x9 : Int) : ∀ (j k : Nat) (x3 : List Int), j ≤ 8 → x3.length + j ≤ 100 → mail_bytes.l1 (k + j + 1) x3 ((j : Int) - 1) x7 x8 x9 n s = mail_bytes.l0 k (x3 ++ bsD n j) x7 x8 (wrap64 (x9 + 1))
  | 0, k, x3, hj, hl => by
    rw [mail_bytes.l1, if_neg (by omega)]
    simp [bsD]
  | j + 1, k, x3, hj, hl => by
    have w1 : wrap64 (8 * (((j + 1 : Nat) : Int) - 1)) = 8 * (j : Int) := by unfold wrap64; omega
    have w2 : wrap64 (((j + 1 : Nat) : Int) - 1 - 1) = (j : Int) - 1 := by unfold wrap64; omega
    have c1 : ((j + 1 : Nat) : Int) - 1 ≥ 0 := by omega
    have c2 : (0 : Int) ≤ 8 * (j : Int) := by omega
    have c3 : x3.length < 140737488355328 := by omega
    rw [mail_bytes.l1, if_pos c1, w1, if_pos c2, if_pos c3, w2]
    have := l1_run n s x7 x8 x9 j k (x3 ++ [shr .u64 n (8 * (j : Int)) % 256]) (by omega) (by simp; omega)
    rw [show k + (j + 1) = k + j + 1 by omega, this, List.append_assoc]
    rfl
theorem bytes_f (f0 f1 f2 f3 : Int) : mail_bytes.f 1200 [⟨f0, 4⟩, ⟨f1, 8⟩, ⟨f2, 2⟩, ⟨f3, 8⟩] = some (strOfNums (bsD f0 4 ++ bsD f1 8 ++ bsD f2 2 ++ bsD f3 8)) := by
  have s1 : wrap64 (4 - 1) = ((4 : Nat) : Int) - 1 := by unfold wrap64; omega
  have s2 : wrap64 (8 - 1) = ((8 : Nat) : Int) - 1 := by unfold wrap64; omega
  have s3 : wrap64 (2 - 1) = ((2 : Nat) : Int) - 1 := by unfold wrap64; omega
  have t1 : wrap64 (0 + 1) = 1 := by unfold wrap64; omega
  have t2 : wrap64 (1 + 1) = 2 := by unfold wrap64; omega
  have t3 : wrap64 (2 + 1) = 3 := by unfold wrap64; omega
  have t4 : wrap64 (3 + 1) = 4 := by unfold wrap64; omega
  obtain ⟨F, hF⟩ : ∃ F, ([⟨f0, 4⟩, ⟨f1, 8⟩, ⟨f2, 2⟩, ⟨f3, 8⟩] : List S65) = F := ⟨_, rfl⟩
  have hl : (F.length : Int) = 4 := by rw [← hF]; rfl
  have r0 : rd_T65 F 0 = ⟨f0, 4⟩ := by rw [← hF]; rfl
  have r1 : rd_T65 F 1 = ⟨f1, 8⟩ := by rw [← hF]; rfl
  have r2 : rd_T65 F 2 = ⟨f2, 2⟩ := by rw [← hF]; rfl
  have r3 : rd_T65 F 3 = ⟨f3, 8⟩ := by rw [← hF]; rfl
  rw [hF]
  unfold mail_bytes.f
  rw [hl, mail_bytes.l0, if_pos (by decide), if_pos (by decide), hl, if_pos (by decide), r0]
  show mail_bytes.l1 (1194 + 4 + 1) [] (wrap64 (4 - 1)) F 4 0 f0 4 = _
  rw [s1, l1_run f0 4 F 4 0 4 1194 [] (by omega) (by simp), t1, List.nil_append, mail_bytes.l0, if_pos (by decide), if_pos (by decide), hl, if_pos (by decide), r1]
  show mail_bytes.l1 (1184 + 8 + 1) (bsD f0 4) (wrap64 (8 - 1)) F 4 1 f1 8 = _
  rw [s2, l1_run f1 8 F 4 1 8 1184 _ (by omega) (by rw [bsD_len]; omega), t2, mail_bytes.l0, if_pos (by decide), if_pos (by decide), hl, if_pos (by decide), r2]
  show mail_bytes.l1 (1180 + 2 + 1) (bsD f0 4 ++ bsD f1 8) (wrap64 (2 - 1)) F 4 2 f2 2 = _
  rw [s3, l1_run f2 2 F 4 2 2 1180 _ (by omega) (by rw [List.length_append, bsD_len, bsD_len]; omega), t3, mail_bytes.l0, if_pos (by decide), if_pos (by decide), hl, if_pos (by decide), r3]
  show mail_bytes.l1 (1170 + 8 + 1) (bsD f0 4 ++ bsD f1 8 ++ bsD f2 2) (wrap64 (8 - 1)) F 4 3 f3 8 = _
  rw [s2, l1_run f3 8 F 4 3 8 1170 _ (by omega) (by rw [List.length_append, List.length_append, bsD_len, bsD_len, bsD_len]; omega), t4, mail_bytes.l0, if_neg (by decide)]
theorem str_size (xs : List Int) : (strOfNums xs).size = xs.length := by
  unfold strOfNums
  show ((xs.map fun n => UInt8.ofNat n.toNat).toArray).size = _
  simp
theorem bt_str (xs : List Int) (i : Nat) (h : i < xs.length) (h0 : 0 ≤ xs[i] ∧ xs[i] < 256) : bt (strOfNums xs) (i : Int) = xs[i] := by
  unfold bt
  rw [dif_pos (by rw [str_size, Int.toNat_natCast]; exact h)]
  show ((((xs.map fun n => UInt8.ofNat n.toNat).toArray)[(i : Int).toNat]'(by simpa using h)).toNat : Int) = _
  simp
  omega
theorem orK (x i b : Nat) (hb : b < 2 ^ i) (h : x * 2 ^ i + b < 4294967296) : Go.bits .or .u32 ((x * 2 ^ i : Nat) : Int) ((b : Nat) : Int) = ((x * 2 ^ i + b : Nat) : Int) := by
  have h1 : (BitVec.ofInt 32 ((x * 2 ^ i : Nat) : Int)).toNat = x * 2 ^ i := by
    rw [BitVec.ofInt_natCast, BitVec.toNat_ofNat]; exact Nat.mod_eq_of_lt (by omega)
  have h2 : (BitVec.ofInt 32 ((b : Nat) : Int)).toNat = b := by
    rw [BitVec.ofInt_natCast, BitVec.toNat_ofNat]; exact Nat.mod_eq_of_lt (by omega)
  show IntKind.u32.wrap ((BitVec.ofInt 32 ((x * 2 ^ i : Nat) : Int) ||| BitVec.ofInt 32 ((b : Nat) : Int)).toNat : Int) = _
  have h3 : x * 2 ^ i ||| b = x * 2 ^ i + b := by
    have := Nat.shiftLeft_add_eq_or_of_lt (a := x) (b := b) (i := i) hb
    rw [Nat.shiftLeft_eq] at this
    exact this.symm
  rw [BitVec.toNat_or, h1, h2, h3, IntKind.wrap_u32]
  omega
theorem four_or (n : Nat) (hn : n ≤ 1000000) (b0 b1 b2 b3 : Int) (h0 : b0 = 0) (h1 : b1 = ((n / 65536 : Nat) : Int)) (h2 : b2 = ((n / 256 % 256 : Nat) : Int)) (h3 : b3 = ((n % 256 : Nat) : Int)) :
    Go.bits .or .u32 (Go.bits .or .u32 (Go.bits .or .u32 (((b0 % 4294967296) * 16777216) % 4294967296) (((b1 % 4294967296) * 65536) % 4294967296)) (((b2 % 4294967296) * 256) % 4294967296)) (b3 % 4294967296) = (n : Int) := by
  subst h0 h1 h2 h3
  have e0 : (((0 : Int) % 4294967296) * 16777216) % 4294967296 = ((0 * 2 ^ 24 : Nat) : Int) := by decide
  have e1 : ((((n / 65536 : Nat) : Int) % 4294967296) * 65536) % 4294967296 = ((n / 65536 * 65536 : Nat) : Int) := by omega
  have e2 : ((((n / 256 % 256 : Nat) : Int) % 4294967296) * 256) % 4294967296 = ((n / 256 % 256 * 256 : Nat) : Int) := by omega
  have e3 : (((n % 256 : Nat) : Int) % 4294967296) = ((n % 256 : Nat) : Int) := by omega
  rw [e0, e1, e2, e3, orK 0 24 (n / 65536 * 65536) (by omega) (by omega)]
  rw [show 0 * 2 ^ 24 + n / 65536 * 65536 = n / 65536 * 2 ^ 16 by omega, orK (n / 65536) 16 (n / 256 % 256 * 256) (by omega) (by omega)]
  rw [show n / 65536 * 2 ^ 16 + n / 256 % 256 * 256 = (n / 256) * 2 ^ 8 by omega, orK (n / 256) 8 (n % 256) (by omega) (by omega)]
  congr 1
  omega
theorem byte_nat (n : Nat) (j : Nat) (hj : j ≤ 7) : byteAt (n : Int) j = ((n / 2 ^ (8 * j) % 256 : Nat) : Int) := by
  unfold byteAt shr
  have : min (8 * (j : Int)).toNat IntKind.u64.bits = 8 * j := by
    have hb : IntKind.u64.bits = 64 := rfl
    rw [hb]
    omega
  rw [this]
  simp [Int.natCast_ediv, Int.natCast_emod]
theorem mail_ok1 (k : Nat) (m0 m1 m2 m3 : Int) : mail_Right.f (k + 1) m0 m1 m2 m3 = some (mailOk m0 m1 m2 m3) := by
  rw [← mail_ok m0 m1 m2 m3]
  unfold mail_Right.f mail_Right.j0
  rfl
theorem sizes_f (m0 m1 m2 m3 : Int) : bazaarlaw14_MailSizes.f 1200 m0 m1 m2 m3 = some true := by
  unfold bazaarlaw14_MailSizes.f mail_Bytes.f
  rw [shown14_f, show (1200 : Nat) = 1199 + 1 from rfl, mail_ok1]
  simp only [Option.bind_some]
  by_cases hm : mailOk m0 m1 m2 m3 = true
  · obtain ⟨f0, f1, f2, f3, f4, f5, f6⟩ := mail_fields hm
    obtain ⟨n, rfl⟩ : ∃ n : Nat, m0 = (n : Int) := ⟨m0.toNat, by omega⟩
    have hw : IntKind.u64.wrap (n : Int) = (n : Int) := by rw [IntKind.wrap_u64]; omega
    rw [if_pos hm, show (1199 + 1 : Nat) = 1200 from rfl, bytes_f]
    simp only [Option.bind_some, if_true]
    rw [hw]
    obtain ⟨L, hL⟩ : ∃ L, bsD (n : Int) 4 ++ bsD (IntKind.u64.wrap m1) 8 ++ bsD (IntKind.u64.wrap m2) 2 ++ bsD (IntKind.u64.wrap m3) 8 = L := ⟨_, rfl⟩
    have hlen : L.length = 22 := by rw [← hL]; simp [bsD_len]
    have hb : ∀ (j : Nat) (hj : j < 4), bt (strOfNums L) ((3 - j : Nat) : Int) = byteAt (n : Int) j := by
      intro j hj
      have hg : L[3 - j]'(by omega) = byteAt (n : Int) j := by
        subst hL
        match j, hj with
        | 0, _ => rfl
        | 1, _ => rfl
        | 2, _ => rfl
        | 3, _ => rfl
      rw [bt_str L (3 - j) (by omega) (by rw [hg]; unfold byteAt; omega), hg]
    rw [hL, str_size, hlen]
    have b0 := hb 3 (by omega)
    have b1 := hb 2 (by omega)
    have b2 := hb 1 (by omega)
    have b3 := hb 0 (by omega)
    rw [byte_nat n _ (by omega)] at b0 b1 b2 b3
    have key := four_or n (by omega) (bt (strOfNums L) 0) (bt (strOfNums L) 1) (bt (strOfNums L) 2) (bt (strOfNums L) 3) (b0.trans (by omega)) (b1.trans (by omega)) (b2.trans (by omega)) (b3.trans (by omega))
    rw [if_pos (by decide), if_pos (by decide), if_pos (by decide), if_pos (by decide), if_pos (by decide), key]
    simp
  · rw [if_neg hm]
    simp [hm]
end Go.Proofs.YtoclldkgkmhgaaaDoor.K
