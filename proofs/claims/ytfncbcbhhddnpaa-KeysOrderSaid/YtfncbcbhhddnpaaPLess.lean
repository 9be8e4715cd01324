/- The order of texts, by their bytes. -/
import Derived.Test.YtfncbcbhhddnpaaKx15
import Derived.Test.YtfncbcbhhddnpaaPParse
namespace Go.Proofs.Ytfncbcbhhddnpaa.Pure
open Go.RowKit Go.Proofs.Ytfncbcbhhddnpaa.K Go.Proofs.YtfncbcbhhddnpaaW.PrintWords Go.Proofs.YtfncbcbhhddnpaaW.PrintMore
set_option linter.unusedVariables false
set_option linter.unusedSimpArgs false
def lexlt : List UInt8 → List UInt8 → Bool
  | [], [] => false
  | [], _ :: _ => true
  | _ :: _, [] => false
  | x :: u, y :: v => if x = y then lexlt u v else decide (x.toNat < y.toNat)

theorem bt_get (s : ByteArray) (i : Nat) (h : i < s.size) : bt s (i : Int) = ((s.data.toList[i]'h).toNat : Int) := by
  unfold bt
  rw [dif_pos (by omega)]
  rfl

theorem less_run (s t : ByteArray) (n : Nat) : ∀ (i k : Nat), s.size = i + n → s.size ≤ 1000 → 2 * n + 2 ≤ k →
    bazaarref06_Less.l0 k s t i = some (lexlt (s.data.toList.drop i) (t.data.toList.drop i)) := by
  have hS : s.data.toList.length = s.size := rfl
  have hT : t.data.toList.length = t.size := rfl
  induction n with
  | zero =>
    intro i k hi hs hk
    obtain ⟨k, rfl⟩ : ∃ j, k = j + 2 := ⟨k - 2, by omega⟩
    rw [bazaarref06_Less.l0, if_neg (by omega), bazaarref06_Less.j1, if_neg (by simp)]
    rw [List.drop_eq_nil_of_le (by omega)]
    by_cases ht : t.size ≤ i
    · rw [List.drop_eq_nil_of_le (by omega)]
      simp [lexlt]; omega
    · rw [List.drop_eq_getElem_cons (by omega)]
      simp [lexlt]; omega
  | succ n ih =>
    intro i k hi hs hk
    obtain ⟨k, rfl⟩ : ∃ j, k = j + 2 := ⟨k - 2, by omega⟩
    rw [bazaarref06_Less.l0, if_pos (by omega), bazaarref06_Less.j1]
    rw [List.drop_eq_getElem_cons (l := s.data.toList) (by omega)]
    by_cases ht : t.size ≤ i
    · rw [if_neg (by simp; omega), show t.data.toList.drop i = [] from List.drop_eq_nil_of_le (by omega)]
      simp [lexlt]; omega
    · rw [if_pos (by simp; omega), if_pos (by omega), if_pos (by omega), if_pos (by omega)]
      rw [bt_get s i (by omega), bt_get t i (by omega), List.drop_eq_getElem_cons (l := t.data.toList) (by omega)]
      simp only [lexlt]
      by_cases hx : s.data.toList[i]'(by omega) = t.data.toList[i]'(by omega)
      · rw [if_pos (by rw [hx]), if_pos hx, wrap64_id (by omega) (by omega)]
        exact ih (i + 1) k (by omega) hs (by omega)
      · rw [if_neg (fun h => hx (UInt8.toNat_inj.1 (by omega))), if_neg hx]
        simp

theorem less_eq (s t : ByteArray) (k : Nat) (hs : s.size ≤ 1000) (hk : 2 * s.size + 2 ≤ k) : bazaarref06_Less.f k s t = some (lexlt s.data.toList t.data.toList) := by
  have := less_run s t s.size 0 k (by omega) hs hk
  simpa [bazaarref06_Less.f] using this

theorem lexlt_append (x u v : List UInt8) : lexlt (x ++ u) (x ++ v) = lexlt u v := by
  induction x with
  | nil => rfl
  | cons a x ih => simp [lexlt, ih]
theorem lexlt_refl (x : List UInt8) : lexlt x x = false := by
  induction x with
  | nil => rfl
  | cons a x ih => simp [lexlt, ih]
theorem lexlt_longer (x : List UInt8) : ∀ (y u : List UInt8), x.length = y.length → lexlt (x ++ u) y = lexlt x y := by
  induction x with
  | nil => intro y u h; cases y with
    | nil => cases u <;> rfl
    | cons => simp at h
  | cons a x ih => intro y u h; cases y with
    | nil => simp at h
    | cons b y => simp only [List.cons_append, lexlt]; rw [ih y u (by simpa using h)]

def num (l : List UInt8) : Nat := l.foldl (fun n x => n * 256 + x.toNat) 0
theorem dig_lt (n : Int) (j : Nat) : 0 ≤ digI n j ∧ digI n j < 256 := ⟨Int.emod_nonneg _ (by decide), Int.emod_lt_of_pos _ (by decide)⟩
theorem lt_be4 (n n' : Int) (h0 : 0 ≤ n) (h1 : n < 4294967296) (h0' : 0 ≤ n') (h1' : n' < 4294967296) : lexlt (be n 4) (be n' 4) = decide (n < n') := by
  rw [be4, be4]
  have ne : ∀ j, (UInt8.ofNat (digI n j).toNat = UInt8.ofNat (digI n' j).toNat) ↔ digI n j = digI n' j := fun j => by
    rw [← UInt8.toNat_inj, dig_nat n j h0, dig_nat n' j h0']
    have := dig_lt n j
    have := dig_lt n' j
    omega
  simp only [lexlt, ne, dig_nat n _ h0, dig_nat n' _ h0']
  have hd : ∀ p : Int, digI p 3 = p / 16777216 % 256 ∧ digI p 2 = p / 65536 % 256 ∧ digI p 1 = p / 256 % 256 ∧ digI p 0 = p / 1 % 256 := fun p => ⟨rfl, rfl, rfl, rfl⟩
  rw [(hd n).1, (hd n).2.1, (hd n).2.2.1, (hd n).2.2.2, (hd n').1, (hd n').2.1, (hd n').2.2.1, (hd n').2.2.2]
  split
  · split
    · split
      · split
        · symm; rw [decide_eq_false_iff_not]; omega
        · rw [decide_eq_decide]; omega
      · rw [decide_eq_decide]; omega
    · rw [decide_eq_decide]; omega
  · rw [decide_eq_decide]; omega
theorem lt_be2 (n n' : Int) (h0 : 0 ≤ n) (h1 : n < 65536) (h0' : 0 ≤ n') (h1' : n' < 65536) : lexlt (be n 2) (be n' 2) = decide (n < n') := by
  rw [be2, be2]
  have ne : ∀ j, (UInt8.ofNat (digI n j).toNat = UInt8.ofNat (digI n' j).toNat) ↔ digI n j = digI n' j := fun j => by
    rw [← UInt8.toNat_inj, dig_nat n j h0, dig_nat n' j h0']
    have := dig_lt n j
    have := dig_lt n' j
    omega
  simp only [lexlt, ne, dig_nat n _ h0, dig_nat n' _ h0']
  have hd : ∀ p : Int, digI p 1 = p / 256 % 256 ∧ digI p 0 = p / 1 % 256 := fun p => ⟨rfl, rfl⟩
  rw [(hd n).1, (hd n).2, (hd n').1, (hd n').2]
  split
  · split
    · symm; rw [decide_eq_false_iff_not]; omega
    · rw [decide_eq_decide]; omega
  · rw [decide_eq_decide]; omega
end Go.Proofs.Ytfncbcbhhddnpaa.Pure
