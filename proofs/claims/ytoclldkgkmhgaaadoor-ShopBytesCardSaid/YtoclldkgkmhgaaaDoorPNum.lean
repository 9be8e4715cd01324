/- Plain facts: a number's bytes and back, by the program and by the references. -/
import Derived.Test.YtoclldkgkmhgaaaDoorCS
import Derived.Test.YtoclldkgkmhgaaaDoorKx27
import Derived.Test.YtoclldkgkmhgaaaDoorKx29
import Derived.Laws.BytesArg
namespace Go.Proofs.YtoclldkgkmhgaaaDoor.K
open Go.RowKit Go.Proofs.YtoclldkgkmhgaaaDoorW.PrintWords Go.Proofs.YtoclldkgkmhgaaaDoorW.PrintLast Go.Proofs.YtoclldkgkmhgaaaDoorW.PrintMore
set_option linter.unusedVariables false
set_option linter.unusedSimpArgs false

def byteAt (n : Int) (j : Nat) : Int := shr .u64 n (8 * (j : Int)) % 256
/-- The last j bytes of a number, the greatest first. -/
def bsD (n : Int) : Nat → List Int
  | 0 => []
  | j + 1 => byteAt n j :: bsD n j
theorem bsD_len (n : Int) : ∀ j, (bsD n j).length = j
  | 0 => rfl
  | j + 1 => by simp [bsD, bsD_len n j]
theorem str_size (xs : List Int) : (strOfNums xs).size = xs.length := by
  unfold strOfNums
  show ((xs.map fun n => UInt8.ofNat n.toNat).toArray).size = _
  simp
def byt (x : Int) : UInt8 := UInt8.ofNat x.toNat
/-- The number's z bytes, the greatest first. -/
def be (n : Nat) (z : Nat) : List UInt8 := (bsD (n : Int) z).map byt
def val : List UInt8 → Nat
  | [] => 0
  | x :: l => x.toNat * 256 ^ l.length + val l
/-- The number that z bytes from a on tell. -/
def fld (l : List UInt8) (a z : Nat) : Nat := val ((l.drop a).take z)
theorem str_append (a b : List Int) : strOfNums a ++ strOfNums b = strOfNums (a ++ b) := by
  apply WideShapes.bytes_inj
  simp [strOfNums, ByteArray.data_append]

/- The references' bytes. -/
theorem rput_run (n : Int) (z : Nat) : ∀ (k : Nat) (x5 : List Int), z ≤ 8 → x5.length + z ≤ 1000 → z + 1 ≤ k →
    bazaarref03_Put.l0 k n x5 ((z : Int) - 1) = some (strOfNums (x5 ++ bsD n z)) := by
  induction z with
  | zero =>
    intro k x5 _ _ hk
    obtain ⟨k, rfl⟩ : ∃ q, k = q + 1 := ⟨k - 1, by omega⟩
    rw [bazaarref03_Put.l0, if_neg (by omega)]
    simp [bsD]
  | succ z ih =>
    intro k x5 hz hx hk
    obtain ⟨k, rfl⟩ : ∃ q, k = q + 1 := ⟨k - 1, by omega⟩
    have e0 : ((z + 1 : Nat) : Int) - 1 = z := by omega
    have e1 : IntKind.u64.wrap (wrap64 (8 * (z : Int))) = 8 * (z : Int) := by rw [IntKind.wrap_u64]; unfold wrap64; omega
    have e2 : wrap64 ((z : Int) - 1) = (z : Int) - 1 := by unfold wrap64; omega
    rw [e0, bazaarref03_Put.l0, if_pos (by omega), e1, if_pos (by omega), if_pos (by omega), e2, ih k _ (by omega) (by simp; omega) (by omega), List.append_assoc]
    rfl
theorem rput_is (n : Int) (z k : Nat) (hz : z ≤ 8) (hk : 20 ≤ k) : bazaarref03_Put.f k n (z : Int) = some (strOfNums (bsD n z)) := by
  have := rput_run n z k [] (by omega) (by simp; omega) (by omega)
  have e2 : wrap64 ((z : Int) - 1) = (z : Int) - 1 := by unfold wrap64; omega
  unfold bazaarref03_Put.f
  rw [e2]
  exact this
theorem rget_run (b : ByteArray) (hb : b.size ≤ 100) (d : Nat) : ∀ (i k : Nat), b.size = i + d → d + 1 ≤ k → bazaarref03_Get.l0 k b (num64 b.data.toList i) (i : Int) = some (num64 b.data.toList b.size) := by
  induction d with
  | zero =>
    intro i k hi hk
    obtain ⟨k, rfl⟩ : ∃ q, k = q + 1 := ⟨k - 1, by omega⟩
    rw [bazaarref03_Get.l0, if_neg (by omega), show i = b.size from by omega]
  | succ d ih =>
    intro i k hi hk
    obtain ⟨k, rfl⟩ : ∃ q, k = q + 1 := ⟨k - 1, by omega⟩
    have hbt : bt b (i : Int) = ((b.data.toList.getD i 0).toNat : Int) := by
      rw [at_of_lt b i (by omega)]
      unfold bt
      rw [dif_pos (by omega)]
      rfl
    have e2 : wrap64 ((i : Int) + 1) = ((i + 1 : Nat) : Int) := by unfold wrap64; omega
    rw [bazaarref03_Get.l0, if_pos (by omega), if_pos (by omega), hbt, e2]
    exact ih (i + 1) k (by omega) (by omega)
theorem num64_congr (l m : List UInt8) (i : Nat) (h : ∀ j, j < i → l.getD j 0 = m.getD j 0) : num64 l i = num64 m i := by
  induction i with
  | zero => rfl
  | succ i ih => rw [num64, num64, ih (fun j hj => h j (by omega)), h i (by omega)]
theorem rget_is (s : ByteArray) (k a z : Nat) (hj : a + z ≤ s.size) (hz : z ≤ 8) (hk : 20 ≤ k) : bazaarref03_Get.f k (s.extract a (a + z)) = some (num64 (s.data.toList.drop a) z) := by
  have hsz : (s.extract a (a + z)).size = z := by rw [ByteArray.size_extract]; omega
  have := rget_run (s.extract a (a + z)) (by omega) z 0 k (by omega) (by omega)
  rw [show num64 (s.extract a (a + z)).data.toList 0 = 0 from rfl, Int.natCast_zero, hsz] at this
  unfold bazaarref03_Get.f
  rw [this]
  refine congrArg some (num64_congr _ _ z fun i hi => ?_)
  have e : (s.extract a (a + z)).data.toList = (s.data.toList.drop a).take z := by
    rw [ByteArray.data_extract, Array.toList_extract, List.extract_eq_take_drop]
    congr 1
    omega
  rw [e, List.getD_eq_getElem?_getD, List.getD_eq_getElem?_getD, List.getElem?_take, if_pos hi]
/- Four numbers, one behind the other. -/
end Go.Proofs.YtoclldkgkmhgaaaDoor.K
