/- The iterator keys.numbers: its contract. -/
import Derived.Test.YtfncbcbhhddnpaaKKey
import Derived.Test.YtfncbcbhhddnpaaRng
import Derived.WalkKit
import Derived.OwnWalkIn
import Derived.TacticsInMore
import Derived.LoopNIn
import Derived.LoopIn
import Derived.Lib.Hide
import Derived.Lib.IndexBytes
namespace Go.Proofs.Ytfncbcbhhddnpaa.K
open Go.RowKit Go.MapKept Go.Proofs.Ytfncbcbhhddnpaa.Rng Go.Proofs.YtfncbcbhhddnpaaW.PrintWords Go.Proofs.YtfncbcbhhddnpaaW.PrintLast Go.Proofs.YtfncbcbhhddnpaaW.PrintMore
set_option linter.unusedVariables false
set_option linter.unusedSimpArgs false
attribute [local go_sem] Oper.semAt_some

/-- The first i bytes of l, as a number of 32 bits. -/
def num32 (l : List UInt8) : Nat → Int
  | 0 => 0
  | i + 1 => Go.bits .or .u32 (num32 l i * 256 % 4294967296) (((l.getD i 0).toNat : Int) % 4294967296)

/-- How many bytes lie ahead of number k. -/
def ahead (zs : List Nat) (k : Nat) : Nat := (zs.take k).sum

theorem at_of_lt (s : ByteArray) (j : Nat) (h : j < s.size) : s.data.toList.getD j 0 = s[j] := by
  rw [List.getD_eq_getElem?_getD, List.getElem?_eq_getElem (by simpa using h)]
  rfl

theorem ahead_succ (zs : List Nat) (k : Nat) (h : k < zs.length) : ahead zs (k + 1) = ahead zs k + zs.getD k 0 := by
  unfold ahead
  rw [List.take_succ_eq_append_getElem h, List.sum_append, List.getD_eq_getElem?_getD, List.getElem?_eq_getElem h]
  simp

theorem ahead_le (zs : List Nat) (k : Nat) : ahead zs k ≤ zs.sum := by
  have := List.take_append_drop k zs
  have h2 : (zs.take k).sum + (zs.drop k).sum = zs.sum := by rw [← List.sum_append, this]
  unfold ahead
  omega

set_option maxRecDepth 100000 in
set_option maxHeartbeats 2000000 in
theorem numbers1 (F : Fence) (n : Nat) (hF : F.fn 24) (hro : F.round = none) (hn : 1 ≤ n) (B1 B2 b c : Nat) (zs : List Nat) (s : ByteArray) (w : World) (hlen : zs.length ≤ 10) (hsum : zs.sum ≤ s.size) (hs : s.size ≤ 1000)
    (h1 : w.heap[B1]? = some (.cells #[.slice (some ⟨b, 0, none⟩) zs.length c] 59 (0, 0))) (h2 : w.heap[B2]? = some (.cells #[.string s] 9 (0, 0)))
    (hb : ∃ cs, w.heap[b]? = some (.cells cs 3 (0, 0)) ∧ ∀ j, j < zs.length → cs[j]? = some (.int .i64 (zs.getD j 0 : Nat))) :
    SeqL F n Try.prog 24 #[.pointer (some ⟨B1, 0, none⟩), .pointer (some ⟨B2, 0, none⟩)] (fun k => #[.int .u32 (num32 (s.data.toList.drop (ahead zs k)) (zs.getD k 0))]) zs.length (fun _ k => k = B1 ∨ k = B2 ∨ k = b) (fun _ k => k = B2) w := by
  intro l J Jx W hW hJ hJx hY h0
  obtain ⟨cs, hb, hcs⟩ := hb
  have e1 : W.heap[B1]? = some (.cells #[.slice (some ⟨b, 0, none⟩) zs.length c] 59 (0, 0)) := (hW.block _ (Array.getElem?_eq_some_iff.1 h1).1).trans h1
  have e2 : W.heap[B2]? = some (.cells #[.string s] 9 (0, 0)) := (hW.block _ (Array.getElem?_eq_some_iff.1 h2).1).trans h2
  have e3 : W.heap[b]? = some (.cells cs 3 (0, 0)) := (hW.block _ (Array.getElem?_eq_some_iff.1 hb).1).trans hb
  have n12 : B1 ≠ B2 := fun e => by rw [e, h2] at h1; simp at h1
  have n32 : b ≠ B2 := fun e => by rw [e, h2] at hb; simp at hb
  have c1 : W.cell? ⟨B1, 0, none⟩ = some (.slice (some ⟨b, 0, none⟩) zs.length c) := (blk_cell e1 0).trans rfl
  clear h1 h2 hb hW
  refine callsIn_of_wp Try.func24 rfl hF ?_ hro
  simp only [Try.ntmps24, List.size_toArray, List.length_cons, List.length_nil, Nat.reduceAdd, Nat.reduceSub, Array.replicate_succ, Array.replicate_zero, List.push_toArray, List.append_toArray, List.nil_append, List.cons_append]
  gi_wp2
  gi_loopw [10] (fun i wr => ∃ (k : Nat) (sk : ByteArray), k ≤ zs.length ∧ i = .int .i64 k ∧ J k wr ∧ wr.heap[B1]? = some (.cells #[.slice (some ⟨b, 0, none⟩) zs.length c] 59 (0, 0)) ∧ wr.heap[b]? = some (.cells cs 3 (0, 0)) ∧ wr.heap[B2]? = some (.cells #[.string sk] 9 (0, 0)) ∧ Hid (sk.size + ahead zs k = s.size) ∧ Hid (sk.data.toList = s.data.toList.drop (ahead zs k)))
    (fun i _ => zs.length - (intOf i).toNat)
  case atStart => exact ⟨0, s, Nat.zero_le _, rfl, h0, e1, e3, e2, (by simp [ahead] : _ = _), (by simp [ahead] : _ = _)⟩
  case round =>
    obtain ⟨k, sk, hk, rfl, hJk, e1, e3, e2, HS, HG⟩ := hrel
    by_cases hlt : k < zs.length
    · have hz := hcs k hlt
      have cz : wr.cell? ⟨b, k, none⟩ = some (.int .i64 (zs.getD k 0 : Nat)) := (blk_cell e3 k).trans hz
      have c2 : wr.cell? ⟨B2, 0, none⟩ = some (.string sk) := (blk_cell e2 0).trans rfl
      have f2 : wr.frozen? ⟨B2, 0, none⟩ = false := blk_frozen e2 0
      have hzk : ahead zs k + zs.getD k 0 ≤ s.size := by rw [← ahead_succ zs k hlt]; exact Nat.le_trans (ahead_le _ _) hsum
      have hsz := HS.out
      have hsu := ahead_succ zs k hlt
      obtain ⟨fn, tmps, assign, body, hy, hR⟩ := hY k (wr.setCell ⟨B2, 0, none⟩ (.string (sk.extract (zs.getD k 0) sk.size))) hlt (hJ k _ _ hJk (StepZ.setCell _ _ rfl))
      rw [← HG.out] at hy
      generalize hz0 : zs.getD k 0 = z at *
      have hzs : z ≤ sk.size := by omega
      have hsk : sk.size ≤ 1000 := by omega
      have HSU := Lib.hid hsu
      have HZ0 := Lib.hid hz0
      clear hcs hz hsz hzk c1 hsu hz0
      gi_wp2
      obtain ⟨wo, rfl⟩ : ∃ wo : World, wo = wr := ⟨_, rfl⟩
      gi_loop [6, 15] (fun a i => ∃ j : Nat, j ≤ z ∧ i = .int .i64 j ∧ a = .int .u32 (num32 sk.data.toList j)) (fun _ i => z - (intOf i).toNat)
      case atStart => exact ⟨0, Nat.zero_le _, rfl, rfl⟩
      case round =>
        obtain ⟨j, hj, rfl, rfl⟩ := hrel
        by_cases hjz : j < z
        · have hjs : j < sk.size := by omega
          gi_wp2
          refine ⟨⟨j + 1, by omega, by simp, by rw [num32, at_of_lt sk j hjs]⟩, by simp [intOf]; omega⟩
        · obtain rfl : j = z := by omega
          gi_wp2
          have q2 : (wo.setCell ⟨B2, 0, none⟩ (.string (sk.extract j sk.size))).heap[B2]? = some (.cells #[.string (sk.extract j sk.size)] 9 (0, 0)) := by simpa using blk_set e2 0 (.string (sk.extract j sk.size))
          have q1 := (Below.heap_setCell wo ⟨B2, 0, none⟩ (.string (sk.extract j sk.size)) B1 n12).trans e1
          have q3 := (Below.heap_setCell wo ⟨B2, 0, none⟩ (.string (sk.extract j sk.size)) b n32).trans e3
          refine hR.mono ?_
          rintro e W3 (⟨rfl, hJ3, hk3⟩ | ⟨rfl, hJx3, hk3⟩)
          · have p1 := hk3.at_ q1 (fun h => h (.inl rfl))
            have p2 := hk3.at_ q2 (fun h => h (.inr (.inl rfl)))
            have p3 := hk3.at_ q3 (fun h => h (.inr (.inr rfl)))
            clear q1 q2 q3 e1 e2 e3 c2 f2 cz hk3
            gi_wp2
            go_roundw
            case rel => exact ⟨k + 1, sk.extract j sk.size, by omega, by simp, hJ3, p1, p3, p2, (by have := HS.out; have := HSU.out; simp; omega : _ = _), (by rw [Lib.extract_to_end, HG.out, HSU.out, List.drop_drop] : _ = _)⟩
            case measure => simp [intOf]; omega
          · gi_wp2
            refine bodyPost_ret (results_none rfl _ _ _) rfl ?_
            exact ⟨⟨_, rfl⟩, .inr ⟨k, hlt, hJx3⟩⟩
    · obtain rfl : k = zs.length := by omega
      gi_wp2
      go_end0
      exact ⟨⟨_, rfl⟩, .inl hJk⟩
end Go.Proofs.Ytfncbcbhhddnpaa.K
