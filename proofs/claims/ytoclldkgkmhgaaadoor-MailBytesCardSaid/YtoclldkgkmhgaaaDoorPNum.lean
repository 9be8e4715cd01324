/- Plain facts: a number's bytes and back, by the program and by the references. -/
import Derived.Test.YtoclldkgkmhgaaaDoorCS
import Derived.Test.YtoclldkgkmhgaaaDoorKx27
import Derived.Test.YtoclldkgkmhgaaaDoorKx29
import Derived.Laws.BytesArg
namespace Go.Proofs.YtoclldkgkmhgaaaDoor.K
open Go.RowKit Go.Proofs.YtoclldkgkmhgaaaDoorW.PrintWords Go.Proofs.YtoclldkgkmhgaaaDoorW.PrintLast Go.Proofs.YtoclldkgkmhgaaaDoorW.PrintMore
set_option linter.unusedVariables false
set_option linter.unusedSimpArgs false

def byteAt (n : Int) (j : Nat) : Int := shr .u64 n (8 * (j : Int)) % 256
/-- The last j bytes of a number, the greatest first. -/
def bsD (n : Int) : Nat → List Int
  | 0 => []
  | j + 1 => byteAt n j :: bsD n j
theorem bsD_len (n : Int) : ∀ j, (bsD n j).length = j
  | 0 => rfl
  | j + 1 => by simp [bsD, bsD_len n j]
theorem bsD_range (n : Int) : ∀ j, ∀ x ∈ bsD n j, 0 ≤ x ∧ x < 256
  | 0, x, h => by simp [bsD] at h
  | j + 1, x, h => by
    rcases List.mem_cons.1 h with rfl | h
    · unfold byteAt; omega
    · exact bsD_range n j x h
theorem str_size (xs : List Int) : (strOfNums xs).size = xs.length := by
  unfold strOfNums
  show ((xs.map fun n => UInt8.ofNat n.toNat).toArray).size = _
  simp
theorem bt_str (xs : List Int) (i : Nat) (h : i < xs.length) (h0 : 0 ≤ xs[i] ∧ xs[i] < 256) : bt (strOfNums xs) (i : Int) = xs[i] := by
  unfold bt
  rw [dif_pos (by rw [str_size, Int.toNat_natCast]; exact h)]
  show ((((xs.map fun n => UInt8.ofNat n.toNat).toArray)[(i : Int).toNat]'(by simpa using h)).toNat : Int) = _
  simp
  omega
theorem orK (x i b : Nat) (hb : b < 2 ^ i) (h : x * 2 ^ i + b < 4294967296) : Go.bits .or .u32 ((x * 2 ^ i : Nat) : Int) ((b : Nat) : Int) = ((x * 2 ^ i + b : Nat) : Int) := by
  have h1 : (BitVec.ofInt 32 ((x * 2 ^ i : Nat) : Int)).toNat = x * 2 ^ i := by
    rw [BitVec.ofInt_natCast, BitVec.toNat_ofNat]; exact Nat.mod_eq_of_lt (by omega)
  have h2 : (BitVec.ofInt 32 ((b : Nat) : Int)).toNat = b := by
    rw [BitVec.ofInt_natCast, BitVec.toNat_ofNat]; exact Nat.mod_eq_of_lt (by omega)
  show IntKind.u32.wrap ((BitVec.ofInt 32 ((x * 2 ^ i : Nat) : Int) ||| BitVec.ofInt 32 ((b : Nat) : Int)).toNat : Int) = _
  have h3 : x * 2 ^ i ||| b = x * 2 ^ i + b := by
    have := Nat.shiftLeft_add_eq_or_of_lt (a := x) (b := b) (i := i) hb
    rw [Nat.shiftLeft_eq] at this
    exact this.symm
  rw [BitVec.toNat_or, h1, h2, h3, IntKind.wrap_u32]
  omega
theorem four_or (n : Nat) (hn : n ≤ 1000000) (b0 b1 b2 b3 : Int) (h0 : b0 = 0) (h1 : b1 = ((n / 65536 : Nat) : Int)) (h2 : b2 = ((n / 256 % 256 : Nat) : Int)) (h3 : b3 = ((n % 256 : Nat) : Int)) :
    Go.bits .or .u32 (Go.bits .or .u32 (Go.bits .or .u32 (((b0 % 4294967296) * 16777216) % 4294967296) (((b1 % 4294967296) * 65536) % 4294967296)) (((b2 % 4294967296) * 256) % 4294967296)) (b3 % 4294967296) = (n : Int) := by
  subst h0 h1 h2 h3
  have e0 : (((0 : Int) % 4294967296) * 16777216) % 4294967296 = ((0 * 2 ^ 24 : Nat) : Int) := by decide
  have e1 : ((((n / 65536 : Nat) : Int) % 4294967296) * 65536) % 4294967296 = ((n / 65536 * 65536 : Nat) : Int) := by omega
  have e2 : ((((n / 256 % 256 : Nat) : Int) % 4294967296) * 256) % 4294967296 = ((n / 256 % 256 * 256 : Nat) : Int) := by omega
  have e3 : (((n % 256 : Nat) : Int) % 4294967296) = ((n % 256 : Nat) : Int) := by omega
  rw [e0, e1, e2, e3, orK 0 24 (n / 65536 * 65536) (by omega) (by omega)]
  rw [show 0 * 2 ^ 24 + n / 65536 * 65536 = n / 65536 * 2 ^ 16 by omega, orK (n / 65536) 16 (n / 256 % 256 * 256) (by omega) (by omega)]
  rw [show n / 65536 * 2 ^ 16 + n / 256 % 256 * 256 = (n / 256) * 2 ^ 8 by omega, orK (n / 256) 8 (n % 256) (by omega) (by omega)]
  congr 1
  omega
theorem byte_nat (n : Nat) (j : Nat) (hj : j ≤ 7) : byteAt (n : Int) j = ((n / 2 ^ (8 * j) % 256 : Nat) : Int) := by
  unfold byteAt shr
  have : min (8 * (j : Int)).toNat IntKind.u64.bits = 8 * j := by
    have hb : IntKind.u64.bits = 64 := rfl
    rw [hb]
    omega
  rw [this]
  simp [Int.natCast_ediv, Int.natCast_emod]
def byt (x : Int) : UInt8 := UInt8.ofNat x.toNat
/-- The number's z bytes, the greatest first. -/
def be (n : Nat) (z : Nat) : List UInt8 := (bsD (n : Int) z).map byt
def val : List UInt8 → Nat
  | [] => 0
  | x :: l => x.toNat * 256 ^ l.length + val l
/-- The number that z bytes from a on tell. -/
def fld (l : List UInt8) (a z : Nat) : Nat := val ((l.drop a).take z)
theorem be_length (n : Nat) (z : Nat) : (be n z).length = z := by simp [be, bsD_len]
theorem be_succ (n : Nat) (z : Nat) : be n (z + 1) = byt (byteAt (n : Int) z) :: be n z := rfl
theorem byt_nat (m : Nat) (h : m < 256) : (byt (m : Int)).toNat = m := by
  unfold byt
  rw [Int.toNat_natCast]
  simp
  omega
theorem byte_256 (n j : Nat) (hj : j ≤ 7) : byteAt (n : Int) j = ((n / 256 ^ j % 256 : Nat) : Int) := by
  rw [byte_nat n j hj, Nat.pow_mul]
theorem val_lt (l : List UInt8) : val l < 256 ^ l.length := by
  induction l with
  | nil => simp [val]
  | cons x l ih =>
    have hx := x.toNat_lt
    have : x.toNat * 256 ^ l.length ≤ 255 * 256 ^ l.length := Nat.mul_le_mul_right _ (by omega)
    simp only [val, List.length_cons, Nat.pow_succ]
    omega
theorem val_be (m z : Nat) (hz : z ≤ 8) : val (be m z) = m % 256 ^ z := by
  induction z with
  | zero => simp [be, bsD, val, Nat.mod_one]
  | succ z ih =>
    rw [be_succ]
    simp only [val]
    rw [ih (by omega), be_length, byte_256 _ _ (by omega), byt_nat _ (Nat.mod_lt _ (by decide)), Nat.pow_succ, Nat.mod_mul, Nat.mul_comm, Nat.add_comm]
theorem byte_low (a z j : Nat) (b : Nat) (hj : j < z) (hz : z ≤ 8) : byteAt ((a * 256 ^ z + b : Nat) : Int) j = byteAt (b : Int) j := by
  rw [byte_256 _ _ (by omega), byte_256 _ _ (by omega)]
  congr 1
  obtain ⟨d, rfl⟩ : ∃ d, z = j + 1 + d := ⟨z - j - 1, by omega⟩
  have e : a * 256 ^ (j + 1 + d) = 256 ^ j * (256 * (a * 256 ^ d)) := by
    rw [Nat.pow_add, Nat.pow_succ]
    simp only [Nat.mul_comm, Nat.mul_left_comm, Nat.mul_assoc]
  rw [e, Nat.mul_add_div (Nat.pow_pos (by decide)), Nat.mul_add_mod]
theorem be_low (a z b : Nat) (hz : z ≤ 8) : ∀ j, j ≤ z → be (a * 256 ^ z + b) j = be b j := by
  intro j
  induction j with
  | zero => intro _; rfl
  | succ j ih => intro hj; rw [be_succ, be_succ, ih (by omega), byte_low a z j b (by omega) hz]
theorem be_val (l : List UInt8) (h8 : l.length ≤ 8) : be (val l) l.length = l := by
  induction l with
  | nil => rfl
  | cons x l ih =>
    have hl := val_lt l
    have hx := x.toNat_lt
    have h9 : l.length + 1 ≤ 8 := h8
    simp only [val, List.length_cons]
    rw [be_succ, be_low _ _ _ (by omega) _ (Nat.le_refl _), ih (by omega), byte_256 _ _ (by omega), Nat.mul_comm, Nat.mul_add_div (Nat.pow_pos (by decide)), Nat.div_eq_of_lt hl, Nat.add_zero, Nat.mod_eq_of_lt hx]
    congr 1
    exact UInt8.toNat_inj.1 (byt_nat _ hx)
theorem val_snoc (l : List UInt8) (x : UInt8) : val (l ++ [x]) = val l * 256 + x.toNat := by
  induction l with
  | nil => simp [val]
  | cons y l ih =>
    simp only [List.cons_append, val, ih, List.length_append, List.length_cons, List.length_nil, Nat.pow_succ, Nat.zero_add]
    rw [Nat.add_mul, Nat.mul_assoc]
    omega
theorem or64 (x b : Nat) (hx : x < 72057594037927936) (hb : b < 256) : Go.bits .or .u64 (IntKind.u64.wrap ((x : Int) * 256)) (IntKind.u64.wrap (b : Int)) = ((x * 256 + b : Nat) : Int) := by
  rw [show IntKind.u64.wrap ((x : Int) * 256) = ((x * 256 : Nat) : Int) from by rw [IntKind.wrap_u64]; omega, show IntKind.u64.wrap (b : Int) = ((b : Nat) : Int) from by rw [IntKind.wrap_u64]; omega]
  have h1 : (BitVec.ofInt 64 ((x * 256 : Nat) : Int)).toNat = x * 256 := by
    rw [BitVec.ofInt_natCast, BitVec.toNat_ofNat]; exact Nat.mod_eq_of_lt (by omega)
  have h2 : (BitVec.ofInt 64 ((b : Nat) : Int)).toNat = b := by
    rw [BitVec.ofInt_natCast, BitVec.toNat_ofNat]; exact Nat.mod_eq_of_lt (by omega)
  show IntKind.u64.wrap ((BitVec.ofInt 64 ((x * 256 : Nat) : Int) ||| BitVec.ofInt 64 ((b : Nat) : Int)).toNat : Int) = _
  have h3 : x * 256 ||| b = x * 256 + b := by
    have := Nat.shiftLeft_add_eq_or_of_lt (a := x) (b := b) (i := 8) (by omega)
    rw [Nat.shiftLeft_eq] at this
    exact this.symm
  rw [BitVec.toNat_or, h1, h2, h3, IntKind.wrap_u64]
  omega
theorem num64_val (l : List UInt8) (i : Nat) (hi : i ≤ 8) (hl : i ≤ l.length) : num64 l i = (val (l.take i) : Int) := by
  induction i with
  | zero => simp [num64, val]
  | succ i ih =>
    have h := ih (by omega) (by omega)
    have hlt := val_lt (l.take i)
    rw [List.length_take, Nat.min_eq_left (by omega)] at hlt
    have hp : 256 ^ i ≤ 256 ^ 7 := Nat.pow_le_pow_right (by decide) (by omega)
    rw [num64, h, or64 _ _ (by omega) (l.getD i 0).toNat_lt, List.take_succ_eq_append_getElem (by omega), val_snoc]
    rw [List.getD_eq_getElem?_getD, List.getElem?_eq_getElem (by omega)]
    rfl
theorem num_fld (l : List UInt8) (a z : Nat) (hz : z ≤ 8) (h : a + z ≤ l.length) : num64 (l.drop a) z = (fld l a z : Int) := num64_val _ z hz (by rw [List.length_drop]; omega)
theorem fld_lt (l : List UInt8) (a z : Nat) (h : a + z ≤ l.length) : fld l a z < 256 ^ z := by
  have := val_lt ((l.drop a).take z)
  rw [List.length_take, List.length_drop, Nat.min_eq_left (by omega)] at this
  exact this
theorem be_fld (l : List UInt8) (a z : Nat) (hz : z ≤ 8) (h : a + z ≤ l.length) : be (fld l a z) z = (l.drop a).take z := by
  have hl : ((l.drop a).take z).length = z := by rw [List.length_take, List.length_drop]; omega
  have := be_val ((l.drop a).take z) (by omega)
  rw [hl] at this
  exact this
theorem fld_mid (A B C : List UInt8) (a z : Nat) (ha : A.length = a) (hz : B.length = z) : fld (A ++ (B ++ C)) a z = val B := by
  unfold fld
  rw [List.drop_left' ha, List.take_left' hz]
theorem str_list (xs : List Int) : (strOfNums xs).data.toList = xs.map byt := by
  show ((xs.map fun n => UInt8.ofNat n.toNat).toArray).toList = _
  simp
  intro a _
  rfl
theorem str_append (a b : List Int) : strOfNums a ++ strOfNums b = strOfNums (a ++ b) := by
  apply WideShapes.bytes_inj
  simp [strOfNums, ByteArray.data_append]

/- The references' bytes. -/
theorem rput_run (n : Int) (z : Nat) : ∀ (k : Nat) (x5 : List Int), z ≤ 8 → x5.length + z ≤ 1000 → z + 1 ≤ k →
    bazaarref03_Put.l0 k n x5 ((z : Int) - 1) = some (strOfNums (x5 ++ bsD n z)) := by
  induction z with
  | zero =>
    intro k x5 _ _ hk
    obtain ⟨k, rfl⟩ : ∃ q, k = q + 1 := ⟨k - 1, by omega⟩
    rw [bazaarref03_Put.l0, if_neg (by omega)]
    simp [bsD]
  | succ z ih =>
    intro k x5 hz hx hk
    obtain ⟨k, rfl⟩ : ∃ q, k = q + 1 := ⟨k - 1, by omega⟩
    have e0 : ((z + 1 : Nat) : Int) - 1 = z := by omega
    have e1 : IntKind.u64.wrap (wrap64 (8 * (z : Int))) = 8 * (z : Int) := by rw [IntKind.wrap_u64]; unfold wrap64; omega
    have e2 : wrap64 ((z : Int) - 1) = (z : Int) - 1 := by unfold wrap64; omega
    rw [e0, bazaarref03_Put.l0, if_pos (by omega), e1, if_pos (by omega), if_pos (by omega), e2, ih k _ (by omega) (by simp; omega) (by omega), List.append_assoc]
    rfl
theorem rput_is (n : Int) (z k : Nat) (hz : z ≤ 8) (hk : 20 ≤ k) : bazaarref03_Put.f k n (z : Int) = some (strOfNums (bsD n z)) := by
  have := rput_run n z k [] (by omega) (by simp; omega) (by omega)
  have e2 : wrap64 ((z : Int) - 1) = (z : Int) - 1 := by unfold wrap64; omega
  unfold bazaarref03_Put.f
  rw [e2]
  exact this
theorem rget_run (b : ByteArray) (hb : b.size ≤ 100) (d : Nat) : ∀ (i k : Nat), b.size = i + d → d + 1 ≤ k → bazaarref03_Get.l0 k b (num64 b.data.toList i) (i : Int) = some (num64 b.data.toList b.size) := by
  induction d with
  | zero =>
    intro i k hi hk
    obtain ⟨k, rfl⟩ : ∃ q, k = q + 1 := ⟨k - 1, by omega⟩
    rw [bazaarref03_Get.l0, if_neg (by omega), show i = b.size from by omega]
  | succ d ih =>
    intro i k hi hk
    obtain ⟨k, rfl⟩ : ∃ q, k = q + 1 := ⟨k - 1, by omega⟩
    have hbt : bt b (i : Int) = ((b.data.toList.getD i 0).toNat : Int) := by
      rw [at_of_lt b i (by omega)]
      unfold bt
      rw [dif_pos (by omega)]
      rfl
    have e2 : wrap64 ((i : Int) + 1) = ((i + 1 : Nat) : Int) := by unfold wrap64; omega
    rw [bazaarref03_Get.l0, if_pos (by omega), if_pos (by omega), hbt, e2]
    exact ih (i + 1) k (by omega) (by omega)
theorem num64_congr (l m : List UInt8) (i : Nat) (h : ∀ j, j < i → l.getD j 0 = m.getD j 0) : num64 l i = num64 m i := by
  induction i with
  | zero => rfl
  | succ i ih => rw [num64, num64, ih (fun j hj => h j (by omega)), h i (by omega)]
theorem rget_is (s : ByteArray) (k a z : Nat) (hj : a + z ≤ s.size) (hz : z ≤ 8) (hk : 20 ≤ k) : bazaarref03_Get.f k (s.extract a (a + z)) = some (num64 (s.data.toList.drop a) z) := by
  have hsz : (s.extract a (a + z)).size = z := by rw [ByteArray.size_extract]; omega
  have := rget_run (s.extract a (a + z)) (by omega) z 0 k (by omega) (by omega)
  rw [show num64 (s.extract a (a + z)).data.toList 0 = 0 from rfl, Int.natCast_zero, hsz] at this
  unfold bazaarref03_Get.f
  rw [this]
  refine congrArg some (num64_congr _ _ z fun i hi => ?_)
  have e : (s.extract a (a + z)).data.toList = (s.data.toList.drop a).take z := by
    rw [ByteArray.data_extract, Array.toList_extract, List.extract_eq_take_drop]
    congr 1
    omega
  rw [e, List.getD_eq_getElem?_getD, List.getD_eq_getElem?_getD, List.getElem?_take, if_pos hi]
/- Four numbers, one behind the other. -/
theorem piece (l : List UInt8) (a z : Nat) : (l.drop a).take z ++ l.drop (a + z) = l.drop a := by
  rw [← List.drop_drop, List.take_append_drop]
theorem back4 (l : List UInt8) (z0 z1 z2 z3 : Nat) (h0 : z0 ≤ 8) (h1 : z1 ≤ 8) (h2 : z2 ≤ 8) (h3 : z3 ≤ 8) (hl : l.length = z0 + z1 + z2 + z3) :
    be (fld l 0 z0) z0 ++ (be (fld l z0 z1) z1 ++ (be (fld l (z0 + z1) z2) z2 ++ be (fld l (z0 + z1 + z2) z3) z3)) = l := by
  rw [be_fld l _ _ h0 (by omega), be_fld l _ _ h1 (by omega), be_fld l _ _ h2 (by omega), be_fld l _ _ h3 (by omega)]
  have e3 : (l.drop (z0 + z1 + z2)).take z3 = l.drop (z0 + z1 + z2) := List.take_of_length_le (by rw [List.length_drop]; omega)
  have e0 := piece l 0 z0
  rw [Nat.zero_add] at e0
  rw [e3, piece, piece, e0, List.drop_zero]
theorem fld4 (n0 n1 n2 n3 z0 z1 z2 z3 : Nat) (h0 : z0 ≤ 8) (h1 : z1 ≤ 8) (h2 : z2 ≤ 8) (h3 : z3 ≤ 8) (b0 : n0 < 256 ^ z0) (b1 : n1 < 256 ^ z1) (b2 : n2 < 256 ^ z2) (b3 : n3 < 256 ^ z3) (l : List UInt8)
    (hl : be n0 z0 ++ (be n1 z1 ++ (be n2 z2 ++ be n3 z3)) = l) :
    l.length = z0 + z1 + z2 + z3 ∧ fld l 0 z0 = n0 ∧ fld l z0 z1 = n1 ∧ fld l (z0 + z1) z2 = n2 ∧ fld l (z0 + z1 + z2) z3 = n3 := by
  subst hl
  have l0 := be_length n0 z0
  have l1 := be_length n1 z1
  have l2 := be_length n2 z2
  have l3 := be_length n3 z3
  refine ⟨by simp only [List.length_append, l0, l1, l2, l3]; omega, ?_, ?_, ?_, ?_⟩
  · rw [show be n0 z0 ++ (be n1 z1 ++ (be n2 z2 ++ be n3 z3)) = [] ++ (be n0 z0 ++ (be n1 z1 ++ (be n2 z2 ++ be n3 z3))) from rfl, fld_mid [] _ _ 0 z0 rfl l0, val_be _ _ h0, Nat.mod_eq_of_lt b0]
  · rw [fld_mid _ _ _ z0 z1 l0 l1, val_be _ _ h1, Nat.mod_eq_of_lt b1]
  · rw [← List.append_assoc, fld_mid (be n0 z0 ++ be n1 z1) _ _ (z0 + z1) z2 (by simp only [List.length_append, l0, l1]) l2, val_be _ _ h2, Nat.mod_eq_of_lt b2]
  · rw [← List.append_assoc, ← List.append_assoc, show be n3 z3 = be n3 z3 ++ [] from (List.append_nil _).symm, fld_mid (be n0 z0 ++ be n1 z1 ++ be n2 z2) _ _ (z0 + z1 + z2) z3 (by simp only [List.length_append, l0, l1, l2]) l3, val_be _ _ h3, Nat.mod_eq_of_lt b3]
theorem str_be4 (n0 n1 n2 n3 z0 z1 z2 z3 : Nat) : (strOfNums (bsD (n0 : Int) z0 ++ bsD (n1 : Int) z1 ++ bsD (n2 : Int) z2 ++ bsD (n3 : Int) z3)).data.toList = be n0 z0 ++ (be n1 z1 ++ (be n2 z2 ++ be n3 z3)) := by
  rw [str_list]
  simp only [List.map_append, List.append_assoc]
  rfl
theorem str_of_list (xs : List Int) (s : ByteArray) (h : xs.map byt = s.data.toList) : strOfNums xs = s := by
  apply WideShapes.bytes_inj
  rw [str_list, h]
theorem numsM_0 (s : ByteArray) : numsM s 0 = num64 (s.data.toList.drop 0) 4 := by
  unfold numsM
  rw [show ahead [4, 8, 2, 8] 0 = 0 from rfl, show ([4, 8, 2, 8] : List Nat).getD 0 0 = 4 from rfl]
theorem numsM_1 (s : ByteArray) : numsM s 1 = num64 (s.data.toList.drop 4) 8 := by
  unfold numsM
  rw [show ahead [4, 8, 2, 8] 1 = 4 from rfl, show ([4, 8, 2, 8] : List Nat).getD 1 0 = 8 from rfl]
theorem numsM_2 (s : ByteArray) : numsM s 2 = num64 (s.data.toList.drop 12) 2 := by
  unfold numsM
  rw [show ahead [4, 8, 2, 8] 2 = 12 from rfl, show ([4, 8, 2, 8] : List Nat).getD 2 0 = 2 from rfl]
theorem numsM_3 (s : ByteArray) : numsM s 3 = num64 (s.data.toList.drop 14) 8 := by
  unfold numsM
  rw [show ahead [4, 8, 2, 8] 3 = 14 from rfl, show ([4, 8, 2, 8] : List Nat).getD 3 0 = 8 from rfl]
end Go.Proofs.YtoclldkgkmhgaaaDoor.K
