/- Plain facts: the reference's bytes and numbers, in the words of keys'. -/
import Derived.Test.YtfncbcbhhddnpaaPParse
import Derived.Test.YtfncbcbhhddnpaaKx9
import Derived.Test.YtfncbcbhhddnpaaKx11
import Derived.Laws.BytesArg
namespace Go.Proofs.Ytfncbcbhhddnpaa.Pure
open Go.RowKit Go.Proofs.Ytfncbcbhhddnpaa.K Go.Proofs.YtfncbcbhhddnpaaW.PrintWords Go.Proofs.YtfncbcbhhddnpaaW.PrintLast Go.Proofs.YtfncbcbhhddnpaaW.PrintMore
set_option linter.unusedVariables false
set_option linter.unusedSimpArgs false
theorem shr64_dig (n : Int) (z : Nat) (h0 : 0 ≤ n) (h1 : n ≤ 4294967295) (hz : z ≤ 3) (y : Int) (hy : y = 8 * (z : Int)) : shr .u64 (IntKind.u64.wrap n) y % 256 = digI n z := by
  subst hy
  rw [show IntKind.u64.wrap n = n from by rw [IntKind.wrap_u64]; omega]
  unfold shr digI
  have e : min ((8 * (z : Int)).toNat) IntKind.u64.bits = 8 * z := by
    have : IntKind.u64.bits = 64 := rfl
    omega
  rw [e, show (2 : Int) ^ (8 * z) = 256 ^ z from by rw [Int.pow_mul]; rfl]
theorem rput_run (n : Int) (h0 : 0 ≤ n) (h1 : n ≤ 4294967295) (z : Nat) : ∀ (k : Nat) (x5 : List Int), z ≤ 4 → x5.length + z ≤ 1000 → z + 1 ≤ k →
    bazaarref03_Put.l0 k (IntKind.u64.wrap n) x5 ((z : Int) - 1) = some (strOfNums (x5 ++ beI n z)) := by
  induction z with
  | zero =>
    intro k x5 _ _ hk
    obtain ⟨k, rfl⟩ : ∃ q, k = q + 1 := ⟨k - 1, by omega⟩
    rw [bazaarref03_Put.l0, if_neg (by omega)]
    simp [beI]
  | succ z ih =>
    intro k x5 hz hx hk
    obtain ⟨k, rfl⟩ : ∃ q, k = q + 1 := ⟨k - 1, by omega⟩
    have e0 : ((z + 1 : Nat) : Int) - 1 = z := by omega
    have e1 : IntKind.u64.wrap (wrap64 (8 * (z : Int))) = 8 * (z : Int) := by rw [IntKind.wrap_u64]; unfold wrap64; omega
    have e2 : wrap64 ((z : Int) - 1) = (z : Int) - 1 := by unfold wrap64; omega
    rw [e0, bazaarref03_Put.l0, if_pos (by omega), e1, if_pos (by omega), if_pos (by omega), shr64_dig n z h0 h1 (by omega) _ rfl, e2, ih k _ (by omega) (by simp; omega) (by omega)]
    simp [beI]
theorem str_nums (n : Int) (z : Nat) : strOfNums (beI n z) = str (be n z) := by
  unfold strOfNums str be
  rfl
theorem rput_is (n : Int) (h0 : 0 ≤ n) (h1 : n ≤ 4294967295) (z k : Nat) (hz : z ≤ 4) (hk : 20 ≤ k) : bazaarref03_Put.f k (IntKind.u64.wrap n) (z : Int) = some (str (be n z)) := by
  have := rput_run n h0 h1 z k [] (by omega) (by simp; omega) (by omega)
  have e2 : wrap64 ((z : Int) - 1) = (z : Int) - 1 := by unfold wrap64; omega
  unfold bazaarref03_Put.f
  rw [e2]
  rw [List.nil_append, str_nums] at this
  exact this
theorem or64 (x b : Nat) (hx : x < 16777216) (hb : b < 256) : Go.bits .or .u64 (IntKind.u64.wrap ((x : Int) * 256)) (IntKind.u64.wrap (b : Int)) = ((x * 256 + b : Nat) : Int) := by
  rw [show IntKind.u64.wrap ((x : Int) * 256) = ((x * 256 : Nat) : Int) from by rw [IntKind.wrap_u64]; omega, show IntKind.u64.wrap (b : Int) = ((b : Nat) : Int) from by rw [IntKind.wrap_u64]; omega]
  have h1 : (BitVec.ofInt 64 ((x * 256 : Nat) : Int)).toNat = x * 256 := by
    rw [BitVec.ofInt_natCast, BitVec.toNat_ofNat]; exact Nat.mod_eq_of_lt (by omega)
  have h2 : (BitVec.ofInt 64 ((b : Nat) : Int)).toNat = b := by
    rw [BitVec.ofInt_natCast, BitVec.toNat_ofNat]; exact Nat.mod_eq_of_lt (by omega)
  show IntKind.u64.wrap ((BitVec.ofInt 64 ((x * 256 : Nat) : Int) ||| BitVec.ofInt 64 ((b : Nat) : Int)).toNat : Int) = _
  have h3 : x * 256 ||| b = x * 256 + b := by
    have := Nat.shiftLeft_add_eq_or_of_lt (a := x) (b := b) (i := 8) (by omega)
    rw [Nat.shiftLeft_eq] at this
    exact this.symm
  rw [BitVec.toNat_or, h1, h2, h3, IntKind.wrap_u64]
  omega
/-- num32 as a number of naturals. -/
def natN (l : List UInt8) : Nat → Nat
  | 0 => 0
  | i + 1 => natN l i * 256 + (l.getD i 0).toNat
theorem natN_succ (l : List UInt8) (i : Nat) : natN l (i + 1) = natN l i * 256 + (l.getD i 0).toNat := rfl
theorem natN_lt (l : List UInt8) : ∀ i, natN l i < 256 ^ i
  | 0 => by simp [natN]
  | i + 1 => by
    have h := natN_lt l i
    have hx := (l.getD i 0).toNat_lt
    rw [natN_succ, Nat.pow_succ]
    generalize 256 ^ i = P at *
    generalize natN l i = q at *
    generalize (l.getD i 0).toNat = x at *
    omega
theorem natN_small (l : List UInt8) (i : Nat) (hi : i ≤ 3) : natN l i < 16777216 := by
  have h := natN_lt l i
  have h2 : 256 ^ i ≤ 256 ^ 3 := Nat.pow_le_pow_right (by decide) hi
  have h3 : 256 ^ 3 = 16777216 := rfl
  omega
theorem num32_nat (l : List UInt8) : ∀ i, i ≤ 4 → num32 l i = (natN l i : Int)
  | 0, _ => rfl
  | i + 1, hi => by
    rw [num32_s l i (natN l i) (num32_nat l i (by omega)) (natN_small l i (by omega))]
    rfl
theorem get_run (b : ByteArray) (hb : b.size ≤ 4) (d : Nat) : ∀ (i k : Nat), b.size = i + d → d + 1 ≤ k → bazaarref03_Get.l0 k b (natN b.data.toList i : Int) (i : Int) = some (natN b.data.toList b.size : Int) := by
  induction d with
  | zero =>
    intro i k hi hk
    obtain ⟨k, rfl⟩ : ∃ q, k = q + 1 := ⟨k - 1, by omega⟩
    rw [bazaarref03_Get.l0, if_neg (by omega), show i = b.size from by omega]
  | succ d ih =>
    intro i k hi hk
    obtain ⟨k, rfl⟩ : ∃ q, k = q + 1 := ⟨k - 1, by omega⟩
    have hbt : bt b (i : Int) = ((b.data.toList.getD i 0).toNat : Int) := by
      rw [at_of_lt b i (by omega)]
      unfold bt
      rw [dif_pos (by omega)]
      rfl
    have e2 : wrap64 ((i : Int) + 1) = ((i + 1 : Nat) : Int) := by unfold wrap64; omega
    have e3 := or64 (natN b.data.toList i) (b.data.toList.getD i 0).toNat (natN_small _ i (by omega)) (b.data.toList.getD i 0).toNat_lt
    rw [bazaarref03_Get.l0, if_pos (by omega), if_pos (by omega), hbt, e2, e3]
    exact ih (i + 1) k (by omega) (by omega)
theorem natN_congr (l m : List UInt8) (i : Nat) (h : ∀ j, j < i → l.getD j 0 = m.getD j 0) : natN l i = natN m i := by
  induction i with
  | zero => rfl
  | succ i ih => rw [natN, natN, ih (fun j hj => h j (by omega)), h i (by omega)]
theorem rget_is (s : ByteArray) (k a z : Nat) (hj : a + z ≤ s.size) (hz : z ≤ 4) (hk : 20 ≤ k) : bazaarref03_Get.f k (s.extract a (a + z)) = some (num32 (s.data.toList.drop a) z) := by
  have hsz : (s.extract a (a + z)).size = z := by rw [ByteArray.size_extract]; omega
  have := get_run (s.extract a (a + z)) (by omega) z 0 k (by omega) (by omega)
  rw [show natN (s.extract a (a + z)).data.toList 0 = 0 from rfl, Int.natCast_zero, hsz] at this
  unfold bazaarref03_Get.f
  rw [this, num32_nat _ z hz]
  refine congrArg some (congrArg _ (natN_congr _ _ z fun i hi => ?_))
  have e : (s.extract a (a + z)).data.toList = (s.data.toList.drop a).take z := by
    rw [ByteArray.data_extract, Array.toList_extract, List.extract_eq_take_drop]
    congr 1
    omega
  rw [e, List.getD_eq_getElem?_getD, List.getD_eq_getElem?_getD, List.getElem?_take, if_pos hi]
theorem num32_range (l : List UInt8) (z : Nat) (hz : z ≤ 4) : 0 ≤ num32 l z ∧ num32 l z ≤ 4294967295 := by
  rw [num32_nat l z hz]
  have h := natN_lt l z
  have h2 : 256 ^ z ≤ 256 ^ 4 := Nat.pow_le_pow_right (by decide) hz
  omega
/-- A place, if it is right. -/
def pkF (k a i m : Int) : Int × Int × Int × Int × Int := if rightB k a i m = true then (k, a, i, m, 0) else (0, 0, 0, 0, 100)
theorem kp_form (s : ByteArray) (hs : s.size ≤ 1000) (f : K.Form) (hf : f ∈ formsL) (hfit : fits s.data.toList f = true) :
    keys_Parse.f s = some (pkF f.kind (keyA s.data.toList f.a.toNat) (keyI s.data.toList f.a.toNat f.i.toNat) (keyM s.data.toList f.a.toNat f.i.toNat f.m.toNat)) := by
  have hk : ¬ f.kind = 0 := by
    simp only [formsL, List.mem_cons, List.not_mem_nil, or_false] at hf
    rcases hf with rfl | rfl | rfl | rfl | rfl | rfl <;> decide
  unfold keys_Parse.f pkF
  rw [if_neg (by omega), kindF_hit hf hfit, if_neg hk]
  split <;> rfl
theorem kp_none (s : ByteArray) (hs : s.size ≤ 1000) (h : ∀ f ∈ formsL, fits s.data.toList f = false) : keys_Parse.f s = some (0, 0, 0, 0, 100) := by
  unfold keys_Parse.f
  rw [if_neg (by omega), kindF_miss h, if_pos rfl]
theorem bt_first (s : ByteArray) (h : 0 < s.size) : bt s 0 = (s[0].toNat : Int) := by
  unfold bt
  rw [dif_pos (by simpa using h)]
  rfl
theorem num_one (s : ByteArray) (h : 1 < s.size) : num32 (s.data.toList.drop 1) 1 = bt s 1 := by
  rw [num32_nat _ 1 (by omega)]
  unfold bt
  rw [dif_pos (by simpa using h)]
  show ((0 * 256 + ((s.data.toList.drop 1).getD 0 0).toNat : Nat) : Int) = _
  rw [List.getD_eq_getElem?_getD, List.getElem?_drop, List.getElem?_eq_getElem (by simpa using h)]
  simp
  rfl
theorem kp_a (s : ByteArray) (hs : s.size = 5) (hb : bt s 0 = 97) : keys_Parse.f s = some (pkF 1 (num32 (s.data.toList.drop 1) 4) 0 0) := by
  have hf := kp_form s (by omega) (⟨1, 97, 4, 0, 0⟩ : K.Form) (by simp [formsL]) (by rw [fits_eq s _ (by omega), ← bt_first s (by omega), hb, hs]; decide)
  rw [hf]
  rfl
theorem kp_i (s : ByteArray) (hs : s.size = 7) (hb : bt s 0 = 105) : keys_Parse.f s = some (pkF 2 (num32 (s.data.toList.drop 1) 4) (IntKind.u16.wrap (num32 (s.data.toList.drop 5) 2)) 0) := by
  have hf := kp_form s (by omega) (⟨2, 105, 4, 2, 0⟩ : K.Form) (by simp [formsL]) (by rw [fits_eq s _ (by omega), ← bt_first s (by omega), hb, hs]; decide)
  have e : (s.data.toList.drop 1).drop 4 = s.data.toList.drop 5 := by rw [List.drop_drop]
  rw [hf]
  unfold keyA keyI keyM
  rw [show (4 : Int).toNat = 4 from rfl, show (2 : Int).toNat = 2 from rfl, show (0 : Int).toNat = 0 from rfl, e]
  rfl
theorem kp_m (s : ByteArray) (hs : s.size = 9) (hb : bt s 0 = 109) : keys_Parse.f s = some (pkF 3 (num32 (s.data.toList.drop 1) 4) 0 (num32 (s.data.toList.drop 5) 4)) := by
  have hf := kp_form s (by omega) (⟨3, 109, 4, 0, 4⟩ : K.Form) (by simp [formsL]) (by rw [fits_eq s _ (by omega), ← bt_first s (by omega), hb, hs]; decide)
  have e : (s.data.toList.drop 1).drop 4 = s.data.toList.drop 5 := by rw [List.drop_drop]
  rw [hf]
  unfold keyA keyI keyM
  rw [show (4 : Int).toNat = 4 from rfl, show (0 : Int).toNat = 0 from rfl, e, List.drop_zero]
  rfl
theorem kp_s (s : ByteArray) (hs : s.size = 5) (hb : bt s 0 = 115) : keys_Parse.f s = some (pkF 4 (num32 (s.data.toList.drop 1) 4) 0 0) := by
  have hf := kp_form s (by omega) (⟨4, 115, 4, 0, 0⟩ : K.Form) (by simp [formsL]) (by rw [fits_eq s _ (by omega), ← bt_first s (by omega), hb, hs]; decide)
  rw [hf]
  rfl
theorem kp_n (s : ByteArray) (hs : s.size = 2) (hb : bt s 0 = 110) : keys_Parse.f s = some (pkF 5 (bt s 1) 0 0) := by
  have hf := kp_form s (by omega) (⟨5, 110, 1, 0, 0⟩ : K.Form) (by simp [formsL]) (by rw [fits_eq s _ (by omega), ← bt_first s (by omega), hb, hs]; decide)
  rw [hf, ← num_one s (by omega)]
  rfl
theorem kp_t (s : ByteArray) (hs : s.size = 4) (hb : bt s 0 = 116) : keys_Parse.f s = some (pkF 6 (bt s 1) (IntKind.u16.wrap (num32 (s.data.toList.drop 2) 2)) 0) := by
  have hf := kp_form s (by omega) (⟨6, 116, 1, 2, 0⟩ : K.Form) (by simp [formsL]) (by rw [fits_eq s _ (by omega), ← bt_first s (by omega), hb, hs]; decide)
  have e : (s.data.toList.drop 1).drop 1 = s.data.toList.drop 2 := by rw [List.drop_drop]
  rw [hf, ← num_one s (by omega)]
  unfold keyA keyI keyM
  rw [show (1 : Int).toNat = 1 from rfl, show (2 : Int).toNat = 2 from rfl, show (0 : Int).toNat = 0 from rfl, e]
  rfl
theorem kp_else (s : ByteArray) (h0 : 0 < s.size) (hs : s.size ≤ 1000) (h : ¬ (bt s 0 = 97 ∧ s.size = 5) ∧ ¬ (bt s 0 = 105 ∧ s.size = 7) ∧ ¬ (bt s 0 = 109 ∧ s.size = 9) ∧ ¬ (bt s 0 = 115 ∧ s.size = 5) ∧ ¬ (bt s 0 = 110 ∧ s.size = 2) ∧ ¬ (bt s 0 = 116 ∧ s.size = 4)) :
    keys_Parse.f s = some (0, 0, 0, 0, 100) := by
  refine kp_none s hs fun f hf => ?_
  rw [fits_eq s f h0, ← bt_first s h0]
  obtain ⟨h1, h2, h3, h4, h5, h6⟩ := h
  simp only [formsL, List.mem_cons, List.not_mem_nil, or_false] at hf
  rcases hf with rfl | rfl | rfl | rfl | rfl | rfl <;> simp <;> omega
theorem str_app (l m : List UInt8) : str l ++ str m = str (l ++ m) := by
  apply WideShapes.bytes_inj
  simp [str, ByteArray.data_append]
theorem str_ext (l : List UInt8) (a b : Nat) (h : l.length = b) : (str l).extract a b = str (l.drop a) := by
  apply WideShapes.bytes_inj
  rw [ByteArray.data_extract, Array.toList_extract, List.extract_eq_take_drop]
  show (l.drop a).take (b - a) = l.drop a
  exact List.take_of_length_le (by rw [List.length_drop]; omega)
theorem str_sz (l : List UInt8) : (str l).size = l.length := by
  show l.toArray.size = _
  simp
end Go.Proofs.Ytfncbcbhhddnpaa.Pure
