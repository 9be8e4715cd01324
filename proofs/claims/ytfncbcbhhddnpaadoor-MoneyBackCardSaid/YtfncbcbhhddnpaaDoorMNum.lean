/- Plain facts: a number's eight bytes, and back; the numbers of a text. -/
import Derived.Test.YtfncbcbhhddnpaaDoorMParse
import Derived.Laws.BytesArg
namespace Go.Proofs.YtfncbcbhhddnpaaDoor.Pure
open Go.RowKit Go.Proofs.YtfncbcbhhddnpaaDoor.K Go.Proofs.YtfncbcbhhddnpaaDoorW.PrintWords Go.Proofs.YtfncbcbhhddnpaaDoorW.PrintLast Go.Proofs.YtfncbcbhhddnpaaDoorW.PrintMore
set_option linter.unusedVariables false
set_option linter.unusedSimpArgs false

def digI (n : Int) (j : Nat) : Int := n / 256 ^ j % 256
def beI (n : Int) : Nat → List Int
  | 0 => []
  | z + 1 => digI n z :: beI n z
def byt (x : Int) : UInt8 := UInt8.ofNat x.toNat
/-- The number's z bytes, the greatest first. -/
def be (n : Int) (z : Nat) : List UInt8 := (beI n z).map byt
def val : List UInt8 → Nat
  | [] => 0
  | x :: l => x.toNat * 256 ^ l.length + val l
theorem be_length (n : Int) (z : Nat) : (be n z).length = z := by
  induction z with
  | zero => rfl
  | succ z ih => simpa [be, beI] using ih
theorem be_succ (n : Int) (z : Nat) : be n (z + 1) = byt (digI n z) :: be n z := rfl
theorem digI_nat (m j : Nat) : digI (m : Int) j = ((m / 256 ^ j % 256 : Nat) : Int) := by
  unfold digI
  rw [show (256 : Int) = ((256 : Nat) : Int) from rfl, ← Int.natCast_pow, ← Int.natCast_ediv, ← Int.natCast_emod]
theorem byt_nat (m : Nat) (h : m < 256) : (byt (m : Int)).toNat = m := by
  unfold byt
  rw [Int.toNat_natCast]
  simp
  omega
theorem val_lt (l : List UInt8) : val l < 256 ^ l.length := by
  induction l with
  | nil => simp [val]
  | cons x l ih =>
    have hx := x.toNat_lt
    have : x.toNat * 256 ^ l.length ≤ 255 * 256 ^ l.length := Nat.mul_le_mul_right _ (by omega)
    simp only [val, List.length_cons, Nat.pow_succ]
    omega
theorem val_be (m z : Nat) : val (be (m : Int) z) = m % 256 ^ z := by
  induction z with
  | zero => simp [be, beI, val, Nat.mod_one]
  | succ z ih =>
    rw [be_succ]
    simp only [val]
    rw [ih, be_length, digI_nat, byt_nat _ (Nat.mod_lt _ (by decide)), Nat.pow_succ, Nat.mod_mul, Nat.mul_comm, Nat.add_comm]
theorem digI_low (a z j : Nat) (b : Nat) (hj : j < z) : digI ((a * 256 ^ z + b : Nat) : Int) j = digI (b : Int) j := by
  rw [digI_nat, digI_nat]
  congr 1
  obtain ⟨d, rfl⟩ : ∃ d, z = j + 1 + d := ⟨z - j - 1, by omega⟩
  have e : a * 256 ^ (j + 1 + d) = 256 ^ j * (256 * (a * 256 ^ d)) := by
    rw [Nat.pow_add, Nat.pow_succ]
    simp only [Nat.mul_comm, Nat.mul_left_comm, Nat.mul_assoc]
  rw [e, Nat.mul_add_div (Nat.pow_pos (by decide)), Nat.mul_add_mod]
theorem be_low (a z b : Nat) : ∀ j, j ≤ z → be ((a * 256 ^ z + b : Nat) : Int) j = be (b : Int) j := by
  intro j
  induction j with
  | zero => intro _; rfl
  | succ j ih => intro hj; rw [be_succ, be_succ, ih (by omega), digI_low a z j b (by omega)]
theorem be_val (l : List UInt8) : be (val l : Int) l.length = l := by
  induction l with
  | nil => rfl
  | cons x l ih =>
    have hl := val_lt l
    have hx := x.toNat_lt
    simp only [val, List.length_cons]
    rw [be_succ, be_low _ _ _ _ (Nat.le_refl _), ih, digI_nat, Nat.mul_comm, Nat.mul_add_div (Nat.pow_pos (by decide)), Nat.div_eq_of_lt hl, Nat.add_zero, Nat.mod_eq_of_lt hx]
    congr 1
    exact UInt8.toNat_inj.1 (byt_nat _ hx)
theorem val_snoc (l : List UInt8) (x : UInt8) : val (l ++ [x]) = val l * 256 + x.toNat := by
  induction l with
  | nil => simp [val]
  | cons y l ih =>
    simp only [List.cons_append, val, ih, List.length_append, List.length_cons, List.length_nil, Nat.pow_succ, Nat.zero_add]
    rw [Nat.add_mul, Nat.mul_assoc]
    omega

theorem or64 (x b : Nat) (hx : x < 72057594037927936) (hb : b < 256) : Go.bits .or .u64 (IntKind.u64.wrap ((x : Int) * 256)) (IntKind.u64.wrap (b : Int)) = ((x * 256 + b : Nat) : Int) := by
  rw [show IntKind.u64.wrap ((x : Int) * 256) = ((x * 256 : Nat) : Int) from by rw [IntKind.wrap_u64]; omega, show IntKind.u64.wrap (b : Int) = ((b : Nat) : Int) from by rw [IntKind.wrap_u64]; omega]
  have h1 : (BitVec.ofInt 64 ((x * 256 : Nat) : Int)).toNat = x * 256 := by
    rw [BitVec.ofInt_natCast, BitVec.toNat_ofNat]; exact Nat.mod_eq_of_lt (by omega)
  have h2 : (BitVec.ofInt 64 ((b : Nat) : Int)).toNat = b := by
    rw [BitVec.ofInt_natCast, BitVec.toNat_ofNat]; exact Nat.mod_eq_of_lt (by omega)
  show IntKind.u64.wrap ((BitVec.ofInt 64 ((x * 256 : Nat) : Int) ||| BitVec.ofInt 64 ((b : Nat) : Int)).toNat : Int) = _
  have h3 : x * 256 ||| b = x * 256 + b := by
    have := Nat.shiftLeft_add_eq_or_of_lt (a := x) (b := b) (i := 8) (by omega)
    rw [Nat.shiftLeft_eq] at this
    exact this.symm
  rw [BitVec.toNat_or, h1, h2, h3, IntKind.wrap_u64]
  omega
theorem num64_val (l : List UInt8) (i : Nat) (hi : i ≤ 8) (hl : i ≤ l.length) : num64 l i = (val (l.take i) : Int) := by
  induction i with
  | zero => simp [num64, val]
  | succ i ih =>
    have h := ih (by omega) (by omega)
    have hlt := val_lt (l.take i)
    rw [List.length_take, Nat.min_eq_left (by omega)] at hlt
    have hp : 256 ^ i ≤ 256 ^ 7 := Nat.pow_le_pow_right (by decide) (by omega)
    rw [num64, h, or64 _ _ (by omega) (l.getD i 0).toNat_lt, List.take_succ_eq_append_getElem (by omega), val_snoc]
    rw [List.getD_eq_getElem?_getD, List.getElem?_eq_getElem (by omega)]
    rfl
theorem num64_eight (l : List UInt8) (h : 8 ≤ l.length) : num64 l 8 = (val (l.take 8) : Int) ∧ val (l.take 8) < 18446744073709551616 := by
  refine ⟨num64_val l 8 (Nat.le_refl _) h, ?_⟩
  have := val_lt (l.take 8)
  rw [List.length_take, Nat.min_eq_left h] at this
  exact this
/-- Eight bytes that tell an amount are its bytes. -/
theorem be_of_eight (l : List UInt8) (h : 8 ≤ l.length) (ha : amt (wrap64 (num64 l 8)) = true) : be (wrap64 (num64 l 8)) 8 = l.take 8 := by
  obtain ⟨e, hlt⟩ := num64_eight l h
  rw [e] at ha ⊢
  have ha2 : 0 ≤ wrap64 (val (l.take 8) : Int) ∧ wrap64 (val (l.take 8) : Int) ≤ 1152921504606846976 := by unfold amt at ha; simpa using ha
  have hw : wrap64 (val (l.take 8) : Int) = (val (l.take 8) : Int) := by unfold wrap64 at ha2 ⊢; omega
  rw [hw]
  have := be_val (l.take 8)
  rw [List.length_take, Nat.min_eq_left h] at this
  exact this
theorem eight_of_be (n : Int) (r : List UInt8) (ha : amt n = true) : wrap64 (num64 (be n 8 ++ r) 8) = n := by
  have ha2 : 0 ≤ n ∧ n ≤ 1152921504606846976 := by unfold amt at ha; simpa using ha
  obtain ⟨m, rfl⟩ : ∃ m : Nat, n = m := ⟨n.toNat, by omega⟩
  have hl : (be (m : Int) 8).length = 8 := be_length _ _
  rw [(num64_eight _ (by simp [hl])).1, List.take_left' hl, val_be, Nat.mod_eq_of_lt (by omega), wrap64_small (by omega) (by omega)]
theorem amt_wrap (l : List UInt8) (h : 8 ≤ l.length) : amt (wrap64 (num64 l 8)) = decide (num64 l 8 ≤ 1152921504606846976) := by
  obtain ⟨e, hlt⟩ := num64_eight l h
  rw [e]
  unfold amt
  rw [decide_eq_decide]
  unfold wrap64
  omega
end Go.Proofs.YtfncbcbhhddnpaaDoor.Pure
