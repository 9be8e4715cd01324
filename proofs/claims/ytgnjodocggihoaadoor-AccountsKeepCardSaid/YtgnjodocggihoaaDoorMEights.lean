/- The iterator money.eights: its contract. -/
import Derived.Test.YtgnjodocggihoaaDoorKx0
import Derived.Test.YtgnjodocggihoaaDoorMIs
import Derived.Test.YtgnjodocggihoaaDoorRng
import Derived.WalkKit
import Derived.OwnWalkIn
import Derived.TacticsInMore
import Derived.LoopNIn
import Derived.LoopIn
import Derived.Lib.Hide
import Derived.Lib.IndexBytes
namespace Go.Proofs.YtgnjodocggihoaaDoor.K
open Go.RowKit Go.MapKept Go.Proofs.YtgnjodocggihoaaDoor.Rng Go.Proofs.YtgnjodocggihoaaDoorW.PrintWords Go.Proofs.YtgnjodocggihoaaDoorW.PrintLast Go.Proofs.YtgnjodocggihoaaDoorW.PrintMore
set_option linter.unusedVariables false
set_option linter.unusedSimpArgs false
attribute [local go_sem] Oper.semAt_some

/-- The first i bytes of l, as a number of 64 bits. -/
def num64 (l : List UInt8) : Nat → Int
  | 0 => 0
  | i + 1 => Go.bits .or .u64 (IntKind.u64.wrap (num64 l i * 256)) (IntKind.u64.wrap ((l.getD i 0).toNat : Int))

theorem at_of_lt (s : ByteArray) (j : Nat) (h : j < s.size) : s.data.toList.getD j 0 = s[j] := by
  rw [List.getD_eq_getElem?_getD, List.getElem?_eq_getElem (by simpa using h)]
  rfl

/-- The size of the text that a block holds. -/
def sizeOfV : Option Value → Nat
  | some (Value.string s) => s.size
  | _ => 0
def szAt (w : World) (b : Nat) : Nat := sizeOfV (w.cell? ⟨b, 0, none⟩)
theorem szAt_of {w : World} {b : Nat} {s : ByteArray} {t : TypeId} (h : w.heap[b]? = some (.cells #[.string s] t (0, 0))) : szAt w b = s.size := by
  unfold szAt
  rw [(blk_cell h 0).trans rfl]
  rfl

set_option maxRecDepth 100000 in
set_option maxHeartbeats 2000000 in
theorem eights1 (F : Fence) (n : Nat) (hF : F.fn 86) (hro : F.round = none) (hn : 1 ≤ n) (B2 : Nat) (s : ByteArray) (w : World) (hs : s.size ≤ 1000)
    (h2 : w.heap[B2]? = some (.cells #[.string s] 9 (0, 0))) :
    SeqL F n Tryd.prog 86 #[.pointer (some ⟨B2, 0, none⟩)] (fun k => #[.int .i64 (wrap64 (num64 (s.data.toList.drop (8 * k)) 8))]) (s.size / 8) (fun _ k => k = B2) (fun _ k => k = B2) w := by
  intro l J Jx W hW hJ hJx hY h0
  have e2 : W.heap[B2]? = some (.cells #[.string s] 9 (0, 0)) := (hW.block _ (Array.getElem?_eq_some_iff.1 h2).1).trans h2
  clear h2 hW
  refine callsIn_of_wp Tryd.func86 rfl hF ?_ hro
  simp only [Tryd.ntmps86, List.size_toArray, List.length_cons, List.length_nil, Nat.reduceAdd, Nat.reduceSub, Array.replicate_succ, Array.replicate_zero, List.push_toArray, List.append_toArray, List.nil_append, List.cons_append]
  gi_wp2
  gi_loopw [] (fun wr => ∃ (k : Nat) (sk : ByteArray), 8 * k ≤ s.size ∧ J k wr ∧ wr.heap[B2]? = some (.cells #[.string sk] 9 (0, 0)) ∧ Hid (sk.size + 8 * k = s.size) ∧ Hid (sk.data.toList = s.data.toList.drop (8 * k)))
    (fun wr => szAt wr B2)
  case atStart => exact ⟨0, s, by omega, h0, e2, (by simp : _ = _), (by simp : _ = _)⟩
  case round =>
    obtain ⟨k, sk, hk, hJk, e2, HS, HG⟩ := hrel
    have hM := szAt_of e2
    have HM := Lib.hid hM
    clear hM
    have hsz := HS.out
    have c2 : wr.cell? ⟨B2, 0, none⟩ = some (.string sk) := (blk_cell e2 0).trans rfl
    have f2 : wr.frozen? ⟨B2, 0, none⟩ = false := blk_frozen e2 0
    by_cases hlt : 8 ≤ sk.size
    · obtain ⟨fn, tmps, assign, body, hy, hR⟩ := hY k (wr.setCell ⟨B2, 0, none⟩ (.string (sk.extract 8 sk.size))) (by omega) (hJ k _ _ hJk (StepZ.setCell _ _ rfl))
      rw [← HG.out] at hy
      have hsk : sk.size ≤ 1000 := by omega
      have hge : decide ((8 : Int) ≤ (sk.size : Int)) = true := decide_eq_true (by omega)
      clear hsz hlt
      gi_wp2
      obtain ⟨wo, rfl⟩ : ∃ wo : World, wo = wr := ⟨_, rfl⟩
      gi_loop [3, 8] (fun a i => ∃ j : Nat, j ≤ 8 ∧ i = .int .i64 j ∧ a = .int .u64 (num64 sk.data.toList j)) (fun _ i => 8 - (intOf i).toNat)
      case atStart => exact ⟨0, Nat.zero_le _, rfl, rfl⟩
      case round =>
        obtain ⟨j, hj, rfl, rfl⟩ := hrel
        have hlt : 8 ≤ sk.size := by have := of_decide_eq_true hge; omega
        by_cases hjz : j < 8
        · have hjs : j < sk.size := by omega
          have hd8 : decide ((j : Int) < 8) = true := decide_eq_true (by omega)
          clear hge hlt
          gi_wp2
          refine ⟨⟨j + 1, by omega, by simp, by rw [num64, at_of_lt sk j hjs]⟩, by simp [intOf]; omega⟩
        · obtain rfl : j = 8 := by omega
          gi_wp2
          have q2 : (wo.setCell ⟨B2, 0, none⟩ (.string (sk.extract 8 sk.size))).heap[B2]? = some (.cells #[.string (sk.extract 8 sk.size)] 9 (0, 0)) := by simpa using blk_set e2 0 (.string (sk.extract 8 sk.size))
          refine hR.mono ?_
          rintro e W3 (⟨rfl, hJ3, hk3⟩ | ⟨rfl, hJx3, hk3⟩)
          · have p2 := hk3.at_ q2 (fun h => h rfl)
            clear q2 e2 c2 f2 hk3
            gi_wp2
            go_roundw
            case rel => exact ⟨k + 1, sk.extract 8 sk.size, (by have := HS.out; omega), hJ3, p2, (by have := HS.out; simp; omega : _ = _), (by rw [Lib.extract_to_end, HG.out, List.drop_drop, show 8 * k + 8 = 8 * (k + 1) from by omega] : _ = _)⟩
            case measure => rw [szAt_of p2, HM.out]; simp; omega
          · gi_wp2
            refine bodyPost_ret (results_none rfl _ _ _) rfl ?_
            exact ⟨⟨_, rfl⟩, .inr ⟨k, (by have := HS.out; omega), hJx3⟩⟩
    · have hge : decide ((8 : Int) ≤ (sk.size : Int)) = false := decide_eq_false (by omega)
      obtain rfl : k = s.size / 8 := by omega
      clear hlt hsz
      gi_wp2
      go_end0
      exact ⟨⟨_, rfl⟩, .inl hJk⟩
end Go.Proofs.YtgnjodocggihoaaDoor.K
