/- Plain facts of keys: what the functions of the keys' contracts compute. -/
import Derived.Test.YtfncbcbhhddnpaaKx7
import Derived.Laws.BytesArg
import Derived.Laws.Bits64b
namespace Go.Proofs.Ytfncbcbhhddnpaa.Pure
open Go.RowKit Go.Proofs.Ytfncbcbhhddnpaa.K Go.Proofs.YtfncbcbhhddnpaaW.PrintWords Go.Proofs.YtfncbcbhhddnpaaW.PrintLast Go.Proofs.YtfncbcbhhddnpaaW.PrintMore
set_option linter.unusedVariables false
set_option linter.unusedSimpArgs false

def digI (n : Int) (j : Nat) : Int := n / 256 ^ j % 256
def beI (n : Int) : Nat → List Int
  | 0 => []
  | z + 1 => digI n z :: beI n z
def be (n : Int) (z : Nat) : List UInt8 := (beI n z).map fun x => UInt8.ofNat x.toNat
def kbL (k a i m : Int) : List UInt8 := UInt8.ofNat (fmark k).toNat :: (be a (fa k).toNat ++ (be i (fi k).toNat ++ be m (fl k).toNat))

theorem wrap64_id {n : Int} (h0 : 0 ≤ n + 1) (h1 : n ≤ 100000) : wrap64 n = n := by unfold wrap64; omega

theorem shr_dig (n : Int) (z : Nat) (hz : z ≤ 3) : shr .u32 n (wrap64 (8 * (z : Int))) % 256 = digI n z := by
  rw [wrap64_id (by omega) (by omega)]
  unfold shr digI
  have e : min ((8 * (z : Int)).toNat) IntKind.u32.bits = 8 * z := by
    have : IntKind.u32.bits = 32 := rfl
    omega
  rw [e, show (2 : Int) ^ (8 * z) = 256 ^ z from by rw [Int.pow_mul]; rfl]

theorem l1_run (z : Nat) : ∀ (k k' : Nat) (x5 : List Int) (xs : List S45) (len j n f : Int), k' = k + z + 1 → z ≤ 4 → x5.length + z ≤ 100 →
    keys_bytes.l1 k' x5 ((z : Int) - 1) xs len j n f = keys_bytes.l0 k (x5 ++ beI n z) xs len (wrap64 (j + 1)) := by
  induction z with
  | zero =>
    intro k k' x5 xs len j n f hk _ _
    subst hk
    simp [keys_bytes.l1, beI]
  | succ z ih =>
    intro k k' x5 xs len j n f hk hz hx
    subst hk
    have h1 : ((z + 1 : Nat) : Int) - 1 = z := by omega
    rw [h1, show k + (z + 1) + 1 = (k + z + 1) + 1 from by omega, keys_bytes.l1]
    rw [if_pos (by omega), if_pos (by rw [wrap64_id (by omega) (by omega)]; omega), if_pos (by omega), shr_dig n z (by omega), wrap64_id (n := (z : Int) - 1) (by omega) (by omega)]
    rw [ih k (k + z + 1) _ xs len j n f rfl (by omega) (by simp; omega)]
    simp [beI]

theorem beI_length (n : Int) (z : Nat) : (beI n z).length = z := by induction z with | zero => rfl | succ z ih => simp [beI, ih]
theorem be_length (n : Int) (z : Nat) : (be n z).length = z := by simp [be, beI_length]

theorem l0_step (k j : Nat) (x5 : List Int) (xs : List S45) (n : Int) (z : Nat) (hj : j < xs.length) (hl : xs.length ≤ 10) (hz : z ≤ 4) (hx : x5.length + z ≤ 100) (hr : xs.getD j z45 = ⟨n, z⟩) :
    keys_bytes.l0 (k + z + 2) x5 xs xs.length j = keys_bytes.l0 k (x5 ++ beI n z) xs xs.length ((j + 1 : Nat) : Int) := by
  rw [keys_bytes.l0, if_pos (by omega), if_pos (by omega), if_pos (by omega)]
  have e : rd_T45 xs (j : Int) = ⟨n, z⟩ := by unfold rd_T45; rw [Int.toNat_natCast]; exact hr
  rw [e]
  show keys_bytes.l1 (k + z + 1) x5 (wrap64 ((z : Int) - 1)) xs xs.length j n z = _
  rw [wrap64_id (by omega) (by omega), l1_run z k (k + z + 1) x5 xs _ j n z rfl hz hx, wrap64_id (by omega) (by omega)]
  rfl

theorem bytes3 (mk a i m : Int) (za zi zm : Nat) (ha : za ≤ 4) (hi : zi ≤ 4) (hm : zm ≤ 4) :
    keys_bytes.f 40 mk [⟨a, za⟩, ⟨i, zi⟩, ⟨m, zm⟩] = some (strOfNums (mk :: (beI a za ++ (beI i zi ++ beI m zm)))) := by
  unfold keys_bytes.f
  have e0 := l0_step (38 - za) 0 [mk] [⟨a, za⟩, ⟨i, zi⟩, ⟨m, zm⟩] a za (by simp) (by simp) ha (by simp; omega) rfl
  have e1 := l0_step (36 - za - zi) 1 ([mk] ++ beI a za) [⟨a, za⟩, ⟨i, zi⟩, ⟨m, zm⟩] i zi (by simp) (by simp) hi (by simp [beI_length]; omega) rfl
  have e2 := l0_step (34 - za - zi - zm) 2 (([mk] ++ beI a za) ++ beI i zi) [⟨a, za⟩, ⟨i, zi⟩, ⟨m, zm⟩] m zm (by simp) (by simp) hm (by simp [beI_length]; omega) rfl
  rw [show 38 - za + za + 2 = 40 from by omega] at e0
  rw [show 36 - za - zi + zi + 2 = 38 - za from by omega] at e1
  rw [show 34 - za - zi - zm + zm + 2 = 36 - za - zi from by omega] at e2
  refine e0.trans (e1.trans (e2.trans ?_))
  rw [show 34 - za - zi - zm = (33 - za - zi - zm) + 1 from by omega, keys_bytes.l0, if_neg (by simp)]
  simp

theorem bytes1 (mk a : Int) (za : Nat) (ha : za ≤ 4) : keys_bytes.f 40 mk [⟨a, za⟩] = some (strOfNums (mk :: beI a za)) := by
  unfold keys_bytes.f
  have e0 := l0_step (38 - za) 0 [mk] [⟨a, za⟩] a za (by simp) (by simp) ha (by simp; omega) rfl
  rw [show 38 - za + za + 2 = 40 from by omega] at e0
  refine e0.trans ?_
  rw [show 38 - za = (37 - za) + 1 from by omega, keys_bytes.l0, if_neg (by simp)]
  simp

theorem fa_nat (k : Int) : fa k = ((fa k).toNat : Int) ∧ (fa k).toNat ≤ 4 := by unfold fa; by_cases h5 : k = 5 <;> by_cases h6 : k = 6 <;> simp [h5, h6]
theorem fi_nat (k : Int) : fi k = ((fi k).toNat : Int) ∧ (fi k).toNat ≤ 4 := by unfold fi; by_cases h5 : k = 2 <;> by_cases h6 : k = 6 <;> simp [h5, h6]
theorem fl_nat (k : Int) : fl k = ((fl k).toNat : Int) ∧ (fl k).toNat ≤ 4 := by unfold fl; by_cases h5 : k = 3 <;> simp [h5]

def str (l : List UInt8) : ByteArray := ⟨l.toArray⟩
theorem str_toList (l : List UInt8) : (str l).data.toList = l := rfl
theorem str_list (l : List UInt8) : (str l).toList = l := by
  rw [ByteArray.toList_eq]
  rfl

theorem key_right {k a i m : Int} (h : rightB k a i m = true) (h0 : 0 ≤ i) (h1 : i ≤ 65535) : keys_Key.f k a i m = some (str (kbL k a i m), 0) := by
  unfold keys_Key.f
  rw [if_neg (by omega), if_pos h]
  have e := bytes3 (fmark k) a i m _ _ _ (fa_nat k).2 (fi_nat k).2 (fl_nat k).2
  rw [← (fa_nat k).1, ← (fi_nat k).1, ← (fl_nat k).1] at e
  rw [e]
  simp [kbL, be, strOfNums, str]
theorem key_wrong {k a i m : Int} (h : rightB k a i m = false) (h0 : 0 ≤ i) (h1 : i ≤ 65535) : keys_Key.f k a i m = some (⟨#[]⟩, 100) := by
  unfold keys_Key.f
  rw [if_neg (by omega), if_neg (by simp [h])]

/-! ### numbers of bytes -/
theorem or32 (x b : Nat) (hx : x < 16777216) (hb : b < 256) : Go.bits .or .u32 ((x : Int) * 256 % 4294967296) ((b : Int) % 4294967296) = (x : Int) * 256 + b := by
  have e1 : ((x : Int) * 256 % 4294967296) = ((x * 256 : Nat) : Int) := by omega
  have e2 : ((b : Int) % 4294967296) = ((b : Nat) : Int) := by omega
  rw [e1, e2]
  have h1 : (BitVec.ofInt 32 ((x * 256 : Nat) : Int)).toNat = x * 256 := by
    rw [BitVec.ofInt_natCast, BitVec.toNat_ofNat]; exact Nat.mod_eq_of_lt (by omega)
  have h2 : (BitVec.ofInt 32 ((b : Nat) : Int)).toNat = b := by
    rw [BitVec.ofInt_natCast, BitVec.toNat_ofNat]; exact Nat.mod_eq_of_lt (by omega)
  show IntKind.u32.wrap ((BitVec.ofInt 32 ((x * 256 : Nat) : Int) ||| BitVec.ofInt 32 ((b : Nat) : Int)).toNat : Int) = _
  have h3 : x * 256 ||| b = x * 256 + b := by
    have := Nat.shiftLeft_add_eq_or_of_lt (a := x) (b := b) (i := 8) (by omega)
    rw [Nat.shiftLeft_eq] at this
    exact this.symm
  rw [BitVec.toNat_or, h1, h2, h3, IntKind.wrap_u32]
  omega
theorem num32_0 (l : List UInt8) : num32 l 0 = 0 := rfl
theorem num32_s (l : List UInt8) (i x : Nat) (h : num32 l i = (x : Int)) (hx : x < 16777216) : num32 l (i + 1) = ((x * 256 + (l.getD i 0).toNat : Nat) : Int) := by
  show Go.bits .or .u32 (num32 l i * 256 % 4294967296) (((l.getD i 0).toNat : Int) % 4294967296) = _
  rw [h, or32 x _ hx (l.getD i 0).toNat_lt]
  omega
theorem num32_1 (x : UInt8) (l : List UInt8) : num32 (x :: l) 1 = (x.toNat : Int) := by
  rw [num32_s (x :: l) 0 0 rfl (by omega)]; simp
theorem num32_2 (x y : UInt8) (l : List UInt8) : num32 (x :: y :: l) 2 = ((x.toNat * 256 + y.toNat : Nat) : Int) := by
  have := x.toNat_lt
  rw [num32_s (x :: y :: l) 1 x.toNat (num32_1 x (y :: l)) (by omega)]; simp
theorem num32_3 (x y z : UInt8) (l : List UInt8) : num32 (x :: y :: z :: l) 3 = (((x.toNat * 256 + y.toNat) * 256 + z.toNat : Nat) : Int) := by
  have := x.toNat_lt
  have := y.toNat_lt
  rw [num32_s (x :: y :: z :: l) 2 _ (num32_2 x y (z :: l)) (by omega)]; simp
theorem num32_4 (x y z u : UInt8) (l : List UInt8) : num32 (x :: y :: z :: u :: l) 4 = ((((x.toNat * 256 + y.toNat) * 256 + z.toNat) * 256 + u.toNat : Nat) : Int) := by
  have := x.toNat_lt
  have := y.toNat_lt
  have := z.toNat_lt
  rw [num32_s (x :: y :: z :: u :: l) 3 _ (num32_3 x y z (u :: l)) (by omega)]; simp

theorem dig_nat (n : Int) (j : Nat) (h : 0 ≤ n) : (UInt8.ofNat (digI n j).toNat).toNat = (digI n j).toNat := by
  have h0 : 0 ≤ digI n j := Int.emod_nonneg _ (by decide)
  have h1 : digI n j < 256 := Int.emod_lt_of_pos _ (by decide)
  simp
  omega
theorem be4 (n : Int) : be n 4 = [UInt8.ofNat (digI n 3).toNat, UInt8.ofNat (digI n 2).toNat, UInt8.ofNat (digI n 1).toNat, UInt8.ofNat (digI n 0).toNat] := rfl
theorem be2 (n : Int) : be n 2 = [UInt8.ofNat (digI n 1).toNat, UInt8.ofNat (digI n 0).toNat] := rfl
theorem be1 (n : Int) : be n 1 = [UInt8.ofNat (digI n 0).toNat] := rfl
theorem be0 (n : Int) : be n 0 = [] := rfl
theorem num_be4 (n : Int) (h0 : 0 ≤ n) (h1 : n < 4294967296) (l : List UInt8) : num32 (be n 4 ++ l) 4 = n := by
  rw [be4]
  simp only [List.cons_append, List.nil_append]
  rw [num32_4, dig_nat n 3 h0, dig_nat n 2 h0, dig_nat n 1 h0, dig_nat n 0 h0]
  unfold digI
  omega
theorem num_be2 (n : Int) (h0 : 0 ≤ n) (h1 : n < 65536) (l : List UInt8) : num32 (be n 2 ++ l) 2 = n := by
  rw [be2]
  simp only [List.cons_append, List.nil_append]
  rw [num32_2, dig_nat n 1 h0, dig_nat n 0 h0]
  unfold digI
  omega
theorem num_be1 (n : Int) (h0 : 0 ≤ n) (h1 : n < 256) (l : List UInt8) : num32 (be n 1 ++ l) 1 = n := by
  rw [be1]
  simp only [List.cons_append, List.nil_append]
  rw [num32_1, dig_nat n 0 h0]
  unfold digI
  omega
theorem ofNat_eq {x : UInt8} {n : Nat} (h : n = x.toNat) : UInt8.ofNat n = x := by subst h; simp
theorem be_num4 (x y z u : UInt8) (l : List UInt8) : be (num32 (x :: y :: z :: u :: l) 4) 4 = [x, y, z, u] := by
  have := x.toNat_lt
  have := y.toNat_lt
  have := z.toNat_lt
  have := u.toNat_lt
  rw [num32_4, be4]
  unfold digI
  rw [ofNat_eq (x := x) (by omega), ofNat_eq (x := y) (by omega), ofNat_eq (x := z) (by omega), ofNat_eq (x := u) (by omega)]
theorem be_num2 (x y : UInt8) (l : List UInt8) : be (num32 (x :: y :: l) 2) 2 = [x, y] := by
  have := x.toNat_lt
  have := y.toNat_lt
  rw [num32_2, be2]
  unfold digI
  rw [ofNat_eq (x := x) (by omega), ofNat_eq (x := y) (by omega)]
theorem be_num1 (x : UInt8) (l : List UInt8) : be (num32 (x :: l) 1) 1 = [x] := by
  have := x.toNat_lt
  rw [num32_1, be1]
  unfold digI
  rw [ofNat_eq (x := x) (by omega)]
end Go.Proofs.Ytfncbcbhhddnpaa.Pure
