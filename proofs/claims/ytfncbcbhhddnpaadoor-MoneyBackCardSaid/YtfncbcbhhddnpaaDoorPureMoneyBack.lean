/- MoneyBack's plain law. -/
import Derived.Test.YtfncbcbhhddnpaaDoorQx20
import Derived.Test.YtfncbcbhhddnpaaDoorPSame
namespace Go.Proofs.YtfncbcbhhddnpaaDoor.Pure
open Go.RowKit Go.Proofs.YtfncbcbhhddnpaaDoor.K Go.Proofs.YtfncbcbhhddnpaaDoor.Q Go.Proofs.YtfncbcbhhddnpaaDoorW.PrintWords Go.Proofs.YtfncbcbhhddnpaaDoorW.PrintLast Go.Proofs.YtfncbcbhhddnpaaDoorW.PrintMore
set_option linter.unusedVariables false
set_option linter.unusedSimpArgs false
theorem back_tail (s : ByteArray) (hs : s.size ≤ 200) (k : Nat) (hk : 400 ≤ k) : Q.bazaarlaw11_MoneyBack.j0 (k + 1) s true false = some true := by
  rw [Q.bazaarlaw11_MoneyBack.j0, if_neg (by simp), parse_is s (by omega)]
  simp only [Option.bind_some]
  have hle : (eightsL s).length ≤ 25 := by simp [eightsL]; omega
  by_cases h : parseGood s = true
  · rw [if_pos h]
    simp only
    rw [bytes_is (eightsL s) k (by omega) (by omega), bytes_parse s h]
    simp
  · rw [if_neg h]
    simp only
    rw [bytes_is [] k (by simp) (by simp; omega)]
    simp
theorem MoneyBack (l : List Int) (s : ByteArray) (ws : s.size ≤ 140737488351232) : Q.bazaarlaw11_MoneyBack.f 600 l s = some true := by
  unfold Q.bazaarlaw11_MoneyBack.f
  rw [shownQ_true]
  have hn : 0 ≤ mn (l.length : Int) 30 ∧ mn (l.length : Int) 30 ≤ l.length ∧ mn (l.length : Int) 30 ≤ 30 := by unfold mn; split <;> omega
  have hm : 0 ≤ mn (s.size : Int) 200 ∧ mn (s.size : Int) 200 ≤ s.size ∧ mn (s.size : Int) 200 ≤ 200 := by unfold mn; split <;> omega
  have hu : (s.extract 0 (mn (s.size : Int) 200).toNat).size ≤ 200 := by rw [ByteArray.size_extract]; omega
  have hL : (l.take (mn (l.length : Int) 30).toNat).length ≤ 30 := by rw [List.length_take]; omega
  simp only [Option.bind_some]
  rw [if_pos hn.1, if_pos hn.2.1, if_pos hm.1, if_pos hm.2.1]
  generalize s.extract 0 (mn (s.size : Int) 200).toNat = u at hu
  generalize l.take (mn (l.length : Int) 30).toNat = a at hL
  rw [bytes_is a 600 (by omega) (by omega)]
  simp only [Option.bind_some]
  unfold bytesF
  by_cases h : a.all amt = true
  · rw [if_pos h]
    simp only
    rw [parse_bytes a h (by omega)]
    simp only [Option.bind_some, if_true]
    rw [same_is a a 600 (by omega) (by omega)]
    simp only [Option.bind_some, decide_true, Bool.not_true]
    exact back_tail u hu 599 (by omega)
  · rw [if_neg h]
    simp only
    rw [parse_is _ (by show (0 : Nat) ≤ 1000; omega)]
    simp only [Option.bind_some]
    rw [if_neg (by decide)]
    exact back_tail u hu 599 (by omega)
end Go.Proofs.YtfncbcbhhddnpaaDoor.Pure
