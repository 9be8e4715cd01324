/- Plain facts: what the references of money's bytes tell. -/
import Derived.Test.YtgnjodocggihoaaDoorMBytesP
import Derived.Test.YtgnjodocggihoaaDoorKr
namespace Go.Proofs.YtgnjodocggihoaaDoor.Pure
open Go.RowKit Go.Proofs.YtgnjodocggihoaaDoor.K Go.Proofs.YtgnjodocggihoaaDoorW.PrintWords Go.Proofs.YtgnjodocggihoaaDoorW.PrintLast Go.Proofs.YtgnjodocggihoaaDoorW.PrintMore
set_option linter.unusedVariables false
set_option linter.unusedSimpArgs false
theorem refR (n : Int) : K.bazaarref11_Right.f n = some (amt n) := right_amt n
theorem put_run (n : Int) (hn : 0 ≤ n ∧ n ≤ 1152921504606846976) (z : Nat) : ∀ (k : Nat) (x5 : List Int), z ≤ 8 → x5.length + z ≤ 1000 → z + 1 ≤ k →
    K.bazaarref03_Put.l0 k (IntKind.u64.wrap n) x5 ((z : Int) - 1) = some (strOfNums (x5 ++ beI n z)) := by
  induction z with
  | zero =>
    intro k x5 _ _ hk
    obtain ⟨k, rfl⟩ : ∃ q, k = q + 1 := ⟨k - 1, by omega⟩
    rw [K.bazaarref03_Put.l0, if_neg (by omega)]
    simp [beI]
  | succ z ih =>
    intro k x5 hz hx hk
    obtain ⟨k, rfl⟩ : ∃ q, k = q + 1 := ⟨k - 1, by omega⟩
    have e0 : ((z + 1 : Nat) : Int) - 1 = z := by omega
    have e1 : IntKind.u64.wrap (wrap64 (8 * (z : Int))) = 8 * (z : Int) := by rw [wrap64_small (by omega) (by omega), IntKind.wrap_u64]; omega
    rw [e0, K.bazaarref03_Put.l0, if_pos (by omega), e1, if_pos (by omega), if_pos (by omega), shr_dig n z hn.1 hn.2 (by omega) _ rfl, wrap64_small (n := (z : Int) - 1) (by omega) (by omega), ih k _ (by omega) (by simp; omega) (by omega)]
    simp [beI]
theorem put_is (n : Int) (hn : amt n = true) (k : Nat) (hk : 9 ≤ k) : K.bazaarref03_Put.f k (IntKind.u64.wrap n) 8 = some (strOfNums (beI n 8)) := by
  have hA : 0 ≤ n ∧ n ≤ 1152921504606846976 := by unfold amt at hn; simpa using hn
  have := put_run n hA 8 k [] (by omega) (by simp) (by omega)
  unfold K.bazaarref03_Put.f
  rw [wrap64_small (by omega) (by omega)]
  exact this
theorem str_append (a b : List Int) : strOfNums a ++ strOfNums b = strOfNums (a ++ b) := by
  apply WideShapes.bytes_inj
  simp [strOfNums, ByteArray.data_append]
theorem refbytes_run (xs : List Int) (hl : xs.length ≤ 100) (d : Nat) : ∀ (j k : Nat) (x4 : List Int), xs.length = j + d → d + 10 ≤ k → x4.length + 8 * d ≤ 90000 →
    K.bazaarref11_Bytes.l0 k xs (strOfNums x4) (j : Int) = some (if (xs.drop j).all amt = true then (strOfNums (x4 ++ flatI (xs.drop j)), 0) else (⟨#[]⟩, 110)) := by
  induction d with
  | zero =>
    intro j k x4 hj hk hx
    obtain ⟨k, rfl⟩ : ∃ q, k = q + 1 := ⟨k - 1, by omega⟩
    rw [K.bazaarref11_Bytes.l0, if_neg (by omega), List.drop_eq_nil_of_le (by omega)]
    simp [flatI]
  | succ d ih =>
    intro j k x4 hj hk hx
    obtain ⟨k, rfl⟩ : ∃ q, k = q + 1 := ⟨k - 1, by omega⟩
    have hd : xs.drop j = xs[j] :: xs.drop (j + 1) := List.drop_eq_getElem_cons (by omega)
    rw [K.bazaarref11_Bytes.l0, if_pos (by omega), if_pos (by omega), rd_nat xs j (by omega), refR, hd]
    simp only [Option.bind_some, List.all_cons]
    by_cases ha : amt xs[j] = true
    · rw [if_pos ha, put_is _ ha k (by omega)]
      simp only [Option.bind_some, ha]
      rw [if_pos (by rw [strOfNums_size, strOfNums_size, beI_length]; omega), str_append, wrap64_small (by omega) (by omega), show ((j : Int) + 1) = ((j + 1 : Nat) : Int) from by omega, ih (j + 1) k _ (by omega) (by omega) (by rw [List.length_append, beI_length]; omega)]
      simp only [Bool.true_and, flatI, List.flatMap_cons, List.append_assoc]
    · rw [if_neg ha]
      simp [ha]
theorem refbytes_is (l : List Int) (hl : l.length ≤ 100) (k : Nat) (hk : 200 ≤ k) : K.bazaarref11_Bytes.f k l = some (bytesF l) := by
  unfold K.bazaarref11_Bytes.f bytesF
  have := refbytes_run l hl l.length 0 k [] (by omega) (by omega) (by simp; omega)
  simpa [strOfNums] using this
theorem get_run (b : ByteArray) (hb : b.size ≤ 100) (d : Nat) : ∀ (i k : Nat), b.size = i + d → d + 1 ≤ k → K.bazaarref03_Get.l0 k b (num64 b.data.toList i) (i : Int) = some (num64 b.data.toList b.size) := by
  induction d with
  | zero =>
    intro i k hi hk
    obtain ⟨k, rfl⟩ : ∃ q, k = q + 1 := ⟨k - 1, by omega⟩
    rw [K.bazaarref03_Get.l0, if_neg (by omega), show i = b.size from by omega]
  | succ d ih =>
    intro i k hi hk
    obtain ⟨k, rfl⟩ : ∃ q, k = q + 1 := ⟨k - 1, by omega⟩
    have hbt : bt b (i : Int) = ((b.data.toList.getD i 0).toNat : Int) := by
      rw [at_of_lt b i (by omega)]
      unfold bt
      rw [dif_pos (by omega)]
      rfl
    rw [K.bazaarref03_Get.l0, if_pos (by omega), if_pos (by omega), hbt, wrap64_small (by omega) (by omega), show ((i : Int) + 1) = ((i + 1 : Nat) : Int) from by omega]
    exact ih (i + 1) k (by omega) (by omega)
theorem num64_0 (l : List UInt8) : num64 l 0 = 0 := rfl
theorem num64_congr (l m : List UInt8) (i : Nat) (h : ∀ j, j < i → l.getD j 0 = m.getD j 0) : num64 l i = num64 m i := by
  induction i with
  | zero => rfl
  | succ i ih => rw [num64, num64, ih (fun j hj => h j (by omega)), h i (by omega)]
theorem get_eight (s : ByteArray) (k j : Nat) (hj : 8 * j + 8 ≤ s.size) (hk : 20 ≤ k) : K.bazaarref03_Get.f k (s.extract (8 * j) (8 * j + 8)) = some (num64 (s.data.toList.drop (8 * j)) 8) := by
  have hz : (s.extract (8 * j) (8 * j + 8)).size = 8 := by rw [ByteArray.size_extract]; omega
  have := get_run (s.extract (8 * j) (8 * j + 8)) (by omega) 8 0 k (by omega) (by omega)
  rw [num64_0, Int.natCast_zero, hz] at this
  unfold K.bazaarref03_Get.f
  rw [this]
  refine congrArg some (num64_congr _ _ 8 fun i hi => ?_)
  have e : (s.extract (8 * j) (8 * j + 8)).data.toList = (s.data.toList.drop (8 * j)).take 8 := by
    rw [ByteArray.data_extract, Array.toList_extract, List.extract_eq_take_drop]
    congr 1
    omega
  rw [e, List.getD_eq_getElem?_getD, List.getD_eq_getElem?_getD, List.getElem?_take, if_pos hi]
theorem refparse_run (s : ByteArray) (hs : s.size ≤ 200) (h8 : s.size % 8 = 0) (d : Nat) : ∀ (j k : Nat), s.size / 8 = j + d → d + 30 ≤ k →
    K.bazaarref11_Parse.l0 k s ((List.range j).map (eightN s)) ((8 * j : Nat) : Int) = some (if ((List.range' j d).map (eightN s)).all amt = true then ((List.range (j + d)).map (eightN s), 0) else ([], 110)) := by
  induction d with
  | zero =>
    intro j k hj hk
    obtain ⟨k, rfl⟩ : ∃ q, k = q + 1 := ⟨k - 1, by omega⟩
    rw [K.bazaarref11_Parse.l0, if_neg (by omega)]
    simp
  | succ d ih =>
    intro j k hj hk
    obtain ⟨k, rfl⟩ : ∃ q, k = q + 1 := ⟨k - 1, by omega⟩
    have hw : wrap64 (((8 * j : Nat) : Int) + 8) = ((8 * j + 8 : Nat) : Int) := by rw [wrap64_small (by omega) (by omega)]; omega
    rw [K.bazaarref11_Parse.l0, hw, if_pos (by omega), if_pos (by omega), if_pos (by omega), if_pos (by omega), Int.toNat_natCast, Int.toNat_natCast, get_eight s k j (by omega) (by omega)]
    simp only [Option.bind_some]
    have ha : amt (eightN s j) = decide (num64 (s.data.toList.drop (8 * j)) 8 ≤ 1152921504606846976) := amt_wrap _ (by rw [List.length_drop]; show 8 ≤ s.size - 8 * j; omega)
    rw [List.range'_succ, List.map_cons, List.all_cons, ha]
    by_cases h : num64 (s.data.toList.drop (8 * j)) 8 ≤ 1152921504606846976
    · rw [if_neg (by omega), if_pos (by simp; omega), decide_eq_true h, Bool.true_and]
      have e : (List.range j).map (eightN s) ++ [wrap64 (num64 (s.data.toList.drop (8 * j)) 8)] = (List.range (j + 1)).map (eightN s) := by rw [List.range_succ, List.map_append]; rfl
      rw [e, show 8 * j + 8 = 8 * (j + 1) from by omega, ih (j + 1) k (by omega) (by omega), show j + 1 + d = j + (d + 1) from by omega]
    · rw [if_pos (by omega), decide_eq_false h, if_neg (by simp)]
theorem refparse_is (s : ByteArray) (hs : s.size ≤ 200) (k : Nat) (hk : 100 ≤ k) : K.bazaarref11_Parse.f k s = money_Parse.f s := by
  rw [parse_is s (by omega)]
  unfold K.bazaarref11_Parse.f
  by_cases h8 : s.size % 8 = 0
  · rw [if_pos (by omega)]
    have := refparse_run s hs h8 (s.size / 8) 0 k (by omega) (by omega)
    refine Eq.trans this ?_
    rw [Nat.zero_add, ← List.range_eq_range']
    have hg : parseGood s = ((List.range (s.size / 8)).map (eightN s)).all amt := by unfold parseGood eightsL; rw [decide_eq_true h8, Bool.true_and]
    rw [hg]
    rfl
  · rw [if_neg (by omega)]
    have hg : ¬ parseGood s = true := fun h => h8 ((good_iff s).1 h).1
    rw [if_neg hg]
end Go.Proofs.YtgnjodocggihoaaDoor.Pure
