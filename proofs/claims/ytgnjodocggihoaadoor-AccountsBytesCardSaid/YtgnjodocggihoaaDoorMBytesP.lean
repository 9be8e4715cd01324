/- Plain facts: numbers' bytes; what money.Bytes and money.Parse tell. -/
import Derived.Test.YtgnjodocggihoaaDoorMParse
import Derived.Laws.BytesArg
import Derived.Test.YtgnjodocggihoaaDoorKx32
namespace Go.Proofs.YtgnjodocggihoaaDoor.Pure
open Go.RowKit Go.Proofs.YtgnjodocggihoaaDoor.K Go.Proofs.YtgnjodocggihoaaDoorW.PrintWords Go.Proofs.YtgnjodocggihoaaDoorW.PrintLast Go.Proofs.YtgnjodocggihoaaDoorW.PrintMore
set_option linter.unusedVariables false
set_option linter.unusedSimpArgs false

def digI (n : Int) (j : Nat) : Int := n / 256 ^ j % 256
def beI (n : Int) : Nat → List Int
  | 0 => []
  | z + 1 => digI n z :: beI n z
def byt (x : Int) : UInt8 := UInt8.ofNat x.toNat
/-- The number's z bytes, the greatest first. -/
def be (n : Int) (z : Nat) : List UInt8 := (beI n z).map byt
def val : List UInt8 → Nat
  | [] => 0
  | x :: l => x.toNat * 256 ^ l.length + val l
theorem be_length (n : Int) (z : Nat) : (be n z).length = z := by
  induction z with
  | zero => rfl
  | succ z ih => simpa [be, beI] using ih
theorem be_succ (n : Int) (z : Nat) : be n (z + 1) = byt (digI n z) :: be n z := rfl
theorem digI_nat (m j : Nat) : digI (m : Int) j = ((m / 256 ^ j % 256 : Nat) : Int) := by
  unfold digI
  rw [show (256 : Int) = ((256 : Nat) : Int) from rfl, ← Int.natCast_pow, ← Int.natCast_ediv, ← Int.natCast_emod]
theorem byt_nat (m : Nat) (h : m < 256) : (byt (m : Int)).toNat = m := by
  unfold byt
  rw [Int.toNat_natCast]
  simp
  omega
theorem val_lt (l : List UInt8) : val l < 256 ^ l.length := by
  induction l with
  | nil => simp [val]
  | cons x l ih =>
    have hx := x.toNat_lt
    have : x.toNat * 256 ^ l.length ≤ 255 * 256 ^ l.length := Nat.mul_le_mul_right _ (by omega)
    simp only [val, List.length_cons, Nat.pow_succ]
    omega
theorem val_be (m z : Nat) : val (be (m : Int) z) = m % 256 ^ z := by
  induction z with
  | zero => simp [be, beI, val, Nat.mod_one]
  | succ z ih =>
    rw [be_succ]
    simp only [val]
    rw [ih, be_length, digI_nat, byt_nat _ (Nat.mod_lt _ (by decide)), Nat.pow_succ, Nat.mod_mul, Nat.mul_comm, Nat.add_comm]
theorem digI_low (a z j : Nat) (b : Nat) (hj : j < z) : digI ((a * 256 ^ z + b : Nat) : Int) j = digI (b : Int) j := by
  rw [digI_nat, digI_nat]
  congr 1
  obtain ⟨d, rfl⟩ : ∃ d, z = j + 1 + d := ⟨z - j - 1, by omega⟩
  have e : a * 256 ^ (j + 1 + d) = 256 ^ j * (256 * (a * 256 ^ d)) := by
    rw [Nat.pow_add, Nat.pow_succ]
    simp only [Nat.mul_comm, Nat.mul_left_comm, Nat.mul_assoc]
  rw [e, Nat.mul_add_div (Nat.pow_pos (by decide)), Nat.mul_add_mod]
theorem be_low (a z b : Nat) : ∀ j, j ≤ z → be ((a * 256 ^ z + b : Nat) : Int) j = be (b : Int) j := by
  intro j
  induction j with
  | zero => intro _; rfl
  | succ j ih => intro hj; rw [be_succ, be_succ, ih (by omega), digI_low a z j b (by omega)]
theorem be_val (l : List UInt8) : be (val l : Int) l.length = l := by
  induction l with
  | nil => rfl
  | cons x l ih =>
    have hl := val_lt l
    have hx := x.toNat_lt
    simp only [val, List.length_cons]
    rw [be_succ, be_low _ _ _ _ (Nat.le_refl _), ih, digI_nat, Nat.mul_comm, Nat.mul_add_div (Nat.pow_pos (by decide)), Nat.div_eq_of_lt hl, Nat.add_zero, Nat.mod_eq_of_lt hx]
    congr 1
    exact UInt8.toNat_inj.1 (byt_nat _ hx)
theorem val_snoc (l : List UInt8) (x : UInt8) : val (l ++ [x]) = val l * 256 + x.toNat := by
  induction l with
  | nil => simp [val]
  | cons y l ih =>
    simp only [List.cons_append, val, ih, List.length_append, List.length_cons, List.length_nil, Nat.pow_succ, Nat.zero_add]
    rw [Nat.add_mul, Nat.mul_assoc]
    omega

theorem or64 (x b : Nat) (hx : x < 72057594037927936) (hb : b < 256) : Go.bits .or .u64 (IntKind.u64.wrap ((x : Int) * 256)) (IntKind.u64.wrap (b : Int)) = ((x * 256 + b : Nat) : Int) := by
  rw [show IntKind.u64.wrap ((x : Int) * 256) = ((x * 256 : Nat) : Int) from by rw [IntKind.wrap_u64]; omega, show IntKind.u64.wrap (b : Int) = ((b : Nat) : Int) from by rw [IntKind.wrap_u64]; omega]
  have h1 : (BitVec.ofInt 64 ((x * 256 : Nat) : Int)).toNat = x * 256 := by
    rw [BitVec.ofInt_natCast, BitVec.toNat_ofNat]; exact Nat.mod_eq_of_lt (by omega)
  have h2 : (BitVec.ofInt 64 ((b : Nat) : Int)).toNat = b := by
    rw [BitVec.ofInt_natCast, BitVec.toNat_ofNat]; exact Nat.mod_eq_of_lt (by omega)
  show IntKind.u64.wrap ((BitVec.ofInt 64 ((x * 256 : Nat) : Int) ||| BitVec.ofInt 64 ((b : Nat) : Int)).toNat : Int) = _
  have h3 : x * 256 ||| b = x * 256 + b := by
    have := Nat.shiftLeft_add_eq_or_of_lt (a := x) (b := b) (i := 8) (by omega)
    rw [Nat.shiftLeft_eq] at this
    exact this.symm
  rw [BitVec.toNat_or, h1, h2, h3, IntKind.wrap_u64]
  omega
theorem num64_val (l : List UInt8) (i : Nat) (hi : i ≤ 8) (hl : i ≤ l.length) : num64 l i = (val (l.take i) : Int) := by
  induction i with
  | zero => simp [num64, val]
  | succ i ih =>
    have h := ih (by omega) (by omega)
    have hlt := val_lt (l.take i)
    rw [List.length_take, Nat.min_eq_left (by omega)] at hlt
    have hp : 256 ^ i ≤ 256 ^ 7 := Nat.pow_le_pow_right (by decide) (by omega)
    rw [num64, h, or64 _ _ (by omega) (l.getD i 0).toNat_lt, List.take_succ_eq_append_getElem (by omega), val_snoc]
    rw [List.getD_eq_getElem?_getD, List.getElem?_eq_getElem (by omega)]
    rfl
theorem num64_eight (l : List UInt8) (h : 8 ≤ l.length) : num64 l 8 = (val (l.take 8) : Int) ∧ val (l.take 8) < 18446744073709551616 := by
  refine ⟨num64_val l 8 (Nat.le_refl _) h, ?_⟩
  have := val_lt (l.take 8)
  rw [List.length_take, Nat.min_eq_left h] at this
  exact this
/-- Eight bytes that tell an amount are its bytes. -/
theorem be_of_eight (l : List UInt8) (h : 8 ≤ l.length) (ha : amt (wrap64 (num64 l 8)) = true) : be (wrap64 (num64 l 8)) 8 = l.take 8 := by
  obtain ⟨e, hlt⟩ := num64_eight l h
  rw [e] at ha ⊢
  have ha2 : 0 ≤ wrap64 (val (l.take 8) : Int) ∧ wrap64 (val (l.take 8) : Int) ≤ 1152921504606846976 := by unfold amt at ha; simpa using ha
  have hw : wrap64 (val (l.take 8) : Int) = (val (l.take 8) : Int) := by unfold wrap64 at ha2 ⊢; omega
  rw [hw]
  have := be_val (l.take 8)
  rw [List.length_take, Nat.min_eq_left h] at this
  exact this
theorem eight_of_be (n : Int) (r : List UInt8) (ha : amt n = true) : wrap64 (num64 (be n 8 ++ r) 8) = n := by
  have ha2 : 0 ≤ n ∧ n ≤ 1152921504606846976 := by unfold amt at ha; simpa using ha
  obtain ⟨m, rfl⟩ : ∃ m : Nat, n = m := ⟨n.toNat, by omega⟩
  have hl : (be (m : Int) 8).length = 8 := be_length _ _
  rw [(num64_eight _ (by simp [hl])).1, List.take_left' hl, val_be, Nat.mod_eq_of_lt (by omega), wrap64_small (by omega) (by omega)]
theorem amt_wrap (l : List UInt8) (h : 8 ≤ l.length) : amt (wrap64 (num64 l 8)) = decide (num64 l 8 ≤ 1152921504606846976) := by
  obtain ⟨e, hlt⟩ := num64_eight l h
  rw [e]
  unfold amt
  rw [decide_eq_decide]
  unfold wrap64
  omega
end Go.Proofs.YtgnjodocggihoaaDoor.Pure
namespace Go.Proofs.YtgnjodocggihoaaDoor.Pure
open Go.RowKit Go.Proofs.YtgnjodocggihoaaDoor.K Go.Proofs.YtgnjodocggihoaaDoor.K Go.Proofs.YtgnjodocggihoaaDoorW.PrintWords Go.Proofs.YtgnjodocggihoaaDoorW.PrintLast Go.Proofs.YtgnjodocggihoaaDoorW.PrintMore
set_option linter.unusedVariables false
set_option linter.unusedSimpArgs false

theorem rd_nat (l : List Int) (j : Nat) (h : j < l.length) : rd l (j : Int) = l[j] := by
  unfold rd
  rw [Int.toNat_natCast, List.getD_eq_getElem?_getD, List.getElem?_eq_getElem h]
  rfl

theorem are_run (l : List Int) (d : Nat) : ∀ (j k : Nat), l.length = j + d → d + 1 ≤ k → l.length ≤ 1000 → K.money_are.l0 k l (l.length : Int) (j : Int) = some ((l.drop j).all amt) := by
  induction d with
  | zero =>
    intro j k hj hk hl
    obtain ⟨k, rfl⟩ : ∃ q, k = q + 1 := ⟨k - 1, by omega⟩
    rw [K.money_are.l0, if_neg (by omega), List.drop_eq_nil_of_le (by omega)]
    rfl
  | succ d ih =>
    intro j k hj hk hl
    obtain ⟨k, rfl⟩ : ∃ q, k = q + 1 := ⟨k - 1, by omega⟩
    rw [K.money_are.l0, if_pos (by omega), if_pos (by omega), if_pos (by omega), rd_nat l j (by omega), List.drop_eq_getElem_cons (by omega), List.all_cons]
    have hr : K.money_Right.f l[j] = some (amt l[j]) := right_amt _
    rw [hr]
    simp only [Option.bind_some]
    cases ha : amt l[j] with
    | true => rw [if_pos rfl, wrap64_small (by omega) (by omega), Bool.true_and]; exact ih (j + 1) k (by omega) (by omega) hl
    | false => rw [if_neg (by simp)]; rfl
theorem are_all (l : List Int) (k : Nat) (hk : l.length + 1 ≤ k) (hl : l.length ≤ 1000) : K.money_are.f k l = some (l.all amt) := by
  have := are_run l l.length 0 k (by omega) hk hl
  simpa [K.money_are.f] using this

theorem shr_dig (n : Int) (z : Nat) (h0 : 0 ≤ n) (h1 : n ≤ 1152921504606846976) (hz : z ≤ 7) (y : Int) (hy : y = 8 * (z : Int)) : shr .u64 (IntKind.u64.wrap n) y % 256 = digI n z := by
  subst hy
  rw [show IntKind.u64.wrap n = n from by rw [IntKind.wrap_u64]; omega]
  unfold shr digI
  have e : min ((8 * (z : Int)).toNat) IntKind.u64.bits = 8 * z := by
    have : IntKind.u64.bits = 64 := rfl
    omega
  rw [e, show (2 : Int) ^ (8 * z) = 256 ^ z from by rw [Int.pow_mul]; rfl]

theorem bytes_l1 (n : Int) (hn : amt n = true) (z : Nat) : ∀ (k : Nat) (x4 xs : List Int) (len j : Int), z ≤ 8 → x4.length + z ≤ 100000 →
    K.money_Bytes.l1 (k + z + 1) x4 n xs len j (8 - (z : Int)) = K.money_Bytes.l0 k (x4 ++ beI n z) xs len (wrap64 (j + 1)) := by
  have hA : 0 ≤ n ∧ n ≤ 1152921504606846976 := by unfold amt at hn; simpa using hn
  induction z with
  | zero =>
    intro k x4 xs len j _ _
    rw [K.money_Bytes.l1, if_neg (by omega)]
    simp [beI]
  | succ z ih =>
    intro k x4 xs len j hz hx
    rw [show k + (z + 1) + 1 = (k + z + 1) + 1 from by omega, K.money_Bytes.l1, if_pos (by omega)]
    have e1 : wrap64 (8 * (8 - ((z + 1 : Nat) : Int))) = 56 - 8 * (z : Int) := by rw [wrap64_small (by omega) (by omega)]; omega
    have e2 : wrap64 (56 - wrap64 (8 * (8 - ((z + 1 : Nat) : Int)))) = 8 * (z : Int) := by rw [e1, wrap64_small (by omega) (by omega)]; omega
    rw [e2, if_pos (by omega), if_pos (by omega), shr_dig n z hA.1 hA.2 (by omega) _ rfl, wrap64_small (n := 8 - ((z + 1 : Nat) : Int) + 1) (by omega) (by omega)]
    rw [show 8 - ((z + 1 : Nat) : Int) + 1 = 8 - (z : Int) from by omega, ih k _ xs len j (by omega) (by simp; omega)]
    simp [beI]
theorem beI_length (n : Int) (z : Nat) : (beI n z).length = z := by induction z with | zero => rfl | succ z ih => simp [beI, ih]
def flatI (l : List Int) : List Int := l.flatMap fun n => beI n 8
theorem bytes_run (xs : List Int) (ha : xs.all amt = true) (hl : xs.length ≤ 1000) (d : Nat) : ∀ (j k : Nat) (x4 : List Int), xs.length = j + d → 10 * d + 1 ≤ k → x4.length + 8 * d ≤ 90000 →
    K.money_Bytes.l0 k x4 xs (xs.length : Int) (j : Int) = some (strOfNums (x4 ++ flatI (xs.drop j)), 0) := by
  induction d with
  | zero =>
    intro j k x4 hj hk hx
    obtain ⟨k, rfl⟩ : ∃ q, k = q + 1 := ⟨k - 1, by omega⟩
    rw [K.money_Bytes.l0, if_neg (by omega), List.drop_eq_nil_of_le (by omega)]
    simp [flatI]
  | succ d ih =>
    intro j k x4 hj hk hx
    obtain ⟨k, rfl⟩ : ∃ q, k = (q + 8 + 1) + 1 := ⟨k - 10, by omega⟩
    rw [K.money_Bytes.l0, if_pos (by omega), if_pos (by omega), if_pos (by omega), rd_nat xs j (by omega)]
    have h1 : amt xs[j] = true := by
      rw [List.all_eq_true] at ha
      exact ha _ (List.getElem_mem _)
    have := bytes_l1 xs[j] h1 8 k x4 xs xs.length j (by omega) (by omega)
    rw [show (8 : Int) - ((8 : Nat) : Int) = 0 from rfl] at this
    rw [this, wrap64_small (by omega) (by omega)]
    rw [show ((j : Int) + 1) = ((j + 1 : Nat) : Int) from by omega, ih (j + 1) k _ (by omega) (by omega) (by rw [List.length_append, beI_length]; omega)]
    have hd : xs.drop j = xs[j] :: xs.drop (j + 1) := List.drop_eq_getElem_cons (by omega)
    rw [hd]
    simp only [flatI, List.flatMap_cons, List.append_assoc]
/-- What money.Bytes tells. -/
def bytesF (l : List Int) : ByteArray × Int := if l.all amt = true then (strOfNums (flatI l), 0) else (⟨#[]⟩, 110)
theorem bytes_is (l : List Int) (k : Nat) (hl : l.length ≤ 1000) (hk : 10 * l.length + 1 ≤ k) : K.money_Bytes.f k l = some (bytesF l) := by
  unfold K.money_Bytes.f bytesF
  rw [are_all l k (by omega) hl]
  simp only [Option.bind_some]
  by_cases h : l.all amt = true
  · rw [if_pos h, if_pos h]
    have := bytes_run l h hl l.length 0 k [] (by omega) (by omega) (by simp; omega)
    simpa using this
  · rw [if_neg h, if_neg h]
theorem flat_bytes (l : List Int) : (strOfNums (flatI l)).data.toList = l.flatMap fun n => be n 8 := by
  rw [strOfNums_data, flatI, List.map_flatMap]
  rfl
theorem flat_size (l : List Int) : (strOfNums (flatI l)).size = 8 * l.length := by
  rw [strOfNums_size]
  induction l with
  | nil => rfl
  | cons x l ih => simp only [flatI, List.flatMap_cons, List.length_append, beI_length, List.length_cons] at ih ⊢; omega

theorem flat_drop (l : List Int) : ∀ k, k ≤ l.length → (l.flatMap fun n => be n 8).drop (8 * k) = (l.drop k).flatMap fun n => be n 8 := by
  induction l with
  | nil => intro k hk; simp at hk; subst hk; rfl
  | cons x l ih =>
    intro k hk
    cases k with
    | zero => rfl
    | succ k =>
      rw [List.flatMap_cons, show 8 * (k + 1) = 8 + 8 * k from by omega, ← List.drop_drop, List.drop_left' (be_length x 8), ih k (by simpa using hk)]
      rfl
/-- The text of amounts holds just them. -/
theorem eights_flat (l : List Int) (ha : l.all amt = true) : eightsL (strOfNums (flatI l)) = l := by
  unfold eightsL
  rw [flat_size, Nat.mul_div_cancel_left _ (by decide)]
  apply List.ext_getElem
  · simp
  · intro k h1 h2
    rw [List.getElem_map, List.getElem_range]
    unfold eightN
    rw [flat_bytes, flat_drop l k (by omega), List.drop_eq_getElem_cons h2, List.flatMap_cons]
    exact eight_of_be _ _ (by rw [List.all_eq_true] at ha; exact ha _ (List.getElem_mem _))
theorem parse_bytes (l : List Int) (ha : l.all amt = true) (hl : l.length ≤ 100) : money_Parse.f (strOfNums (flatI l)) = some (l, 0) := by
  unfold money_Parse.f
  rw [if_neg (by rw [flat_size]; omega)]
  unfold parseGood
  rw [eights_flat l ha, ha, flat_size, decide_eq_true (by omega)]
  rfl
theorem parse_is (s : ByteArray) (hs : s.size ≤ 1000) : money_Parse.f s = some (if parseGood s = true then (eightsL s, 0) else ([], 110)) := by
  unfold money_Parse.f
  rw [if_neg (by omega)]
  split <;> rfl
theorem good_iff (s : ByteArray) : parseGood s = true ↔ s.size % 8 = 0 ∧ (eightsL s).all amt = true := by unfold parseGood; simp
theorem eightN_bytes (s : ByteArray) (k : Nat) (hk : 8 * k + 8 ≤ s.size) (ha : amt (eightN s k) = true) : be (eightN s k) 8 = (s.data.toList.drop (8 * k)).take 8 :=
  be_of_eight _ (by rw [List.length_drop]; show 8 ≤ s.size - 8 * k; omega) ha
theorem flat_eights (s : ByteArray) (h : parseGood s = true) : ((eightsL s).flatMap fun n => be n 8) = s.data.toList := by
  obtain ⟨h0, ha⟩ := (good_iff s).1 h
  rw [List.all_eq_true] at ha
  have hlen : s.data.toList.length = s.size := rfl
  have key : ∀ d k, s.size / 8 = k + d → ((List.range' k d).map (eightN s)).flatMap (fun n => be n 8) = s.data.toList.drop (8 * k) := by
    intro d
    induction d with
    | zero => intro k hk; rw [List.drop_eq_nil_of_le (by omega)]; rfl
    | succ d ih =>
      intro k hk
      rw [List.range'_succ, List.map_cons, List.flatMap_cons, ih (k + 1) (by omega), eightN_bytes s k (by omega) (ha _ (List.mem_map.2 ⟨k, List.mem_range.2 (by omega), rfl⟩))]
      rw [show 8 * (k + 1) = 8 * k + 8 from by omega, ← List.drop_drop, List.take_append_drop]
  have := key (s.size / 8) 0 (by omega)
  rw [← List.range_eq_range'] at this
  simpa [eightsL] using this
theorem bytes_parse (s : ByteArray) (h : parseGood s = true) : bytesF (eightsL s) = (s, 0) := by
  unfold bytesF
  rw [if_pos ((good_iff s).1 h).2]
  congr 1
  have e : (strOfNums (flatI (eightsL s))).data.toList = s.data.toList := by rw [flat_bytes, flat_eights s h]
  exact WideShapes.bytes_inj e
end Go.Proofs.YtgnjodocggihoaaDoor.Pure
