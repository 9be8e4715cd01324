/- The plain law MailBack. -/
import Derived.Test.YtoclldkgkmhgaaaDoorPMBy
import Derived.Test.YtoclldkgkmhgaaaDoorPMailA
import Derived.Test.YtoclldkgkmhgaaaDoorKx52
namespace Go.Proofs.YtoclldkgkmhgaaaDoor.K
open Go.RowKit Go.Proofs.YtoclldkgkmhgaaaDoorW.PrintWords Go.Proofs.YtoclldkgkmhgaaaDoorW.PrintLast Go.Proofs.YtoclldkgkmhgaaaDoorW.PrintMore
open Go.Proofs.YtoclldkgkmhgaaaDoor.Pure (Acc spend_cases earn_cases acc_or amt_iff)
set_option linter.unusedVariables false
set_option linter.unusedSimpArgs false
attribute [local irreducible] numsM num64 fld

theorem acc_ok {a b : Int} (h : Acc a b) : (addF a b).2 = 0 := by
  rcases acc_or a b with ⟨_, z⟩ | ⟨z, _⟩
  · exact z
  · exact absurd h z
theorem earn_back {a b n : Int} (h : Acc a b) (h1 : 0 ≤ n) (h2 : n ≤ a) : earnF (a - n) b n = (a, b, 0) := by
  have hs : addF (a - n) n = (a, 0) := by
    rcases Go.Proofs.YtoclldkgkmhgaaaDoor.Pure.add_cases (a - n) n with ⟨q1, q2, q3, q⟩ | ⟨q1, q2, q3, q⟩ | ⟨q1, q⟩
    · rw [q]; congr 1; omega
    · have := h.1; omega
    · exact absurd ⟨(amt_iff _).2 (by have := h.1; omega), (amt_iff _).2 (by have := h.1; omega)⟩ q1
  have hz := acc_ok h
  have hz2 := acc_ok (a := a - n) (b := b) ⟨by have := h.1; omega, h.2.1, by have := h.2.2; omega⟩
  simp [earnF, doesF, hs, hz, hz2]
/-- What was sent may be claimed, and all is as it was. -/
theorem send_claim (a0 a1 : Int) (l : List S25) (m0 m1 m2 m3 c0 c1 : Int) (x : List S25) (h : sendS a0 a1 l m0 m1 m2 m3 = (c0, c1, x, 0)) : claimS c0 c1 x m0 m1 m2 m3 = (a0, a1, l, 0) := by
  rcases send_cases a0 a1 l m0 m1 m2 m3 with ⟨e, he, hne⟩ | ⟨hm, hA, h1, h20, hs, ⟨h3, he⟩ | ⟨t1, t2, he⟩⟩
  · rw [he] at h
    simp only [Prod.mk.injEq] at h
    exact absurd h.2.2.2 hne
  · rw [he] at h
    simp only [Prod.mk.injEq] at h
    obtain ⟨rfl, rfl, rfl, _⟩ := h
    obtain ⟨f0, f1, f2, f3, f4, f5, f6⟩ := mail_fields hm
    unfold claimS
    rw [if_pos hm, earn_back hA (by omega) h1, if_pos rfl, if_pos ((right_iff l).2 ⟨h20, hs⟩), if_neg (by omega)]
  · have ht := take_ok h20 hs t1 t2
    have hl := take_len (l := l) (it := m2) (n := m3)
    rw [ht] at hl
    rw [he] at h
    simp only [Prod.mk.injEq] at h
    obtain ⟨rfl, rfl, rfl, _⟩ := h
    obtain ⟨f0, f1, f2, f3, f4, f5, f6⟩ := mail_fields hm
    have hc := count_amt m2 l hs
    unfold claimS
    rw [if_pos hm, earn_back hA (by omega) h1, if_pos rfl, if_pos ((right_iff _).2 ⟨hl, srt_put m2 _ (by omega) l hs⟩), if_pos (by omega), give_take ht, if_pos rfl]
theorem mb_is1 (m0 m1 m2 m3 : Int) : mail_Bytes.f 1201 m0 m1 m2 m3 = some (mbF m0 m1 m2 m3) := mail_Bytes.mono m0 m1 m2 m3 1200 _ (mb_is m0 m1 m2 m3)
theorem nums_fld (s : ByteArray) (h : s.size = 22) : numsM s 0 = (fld s.data.toList 0 4 : Int) ∧ numsM s 1 = (fld s.data.toList 4 8 : Int) ∧ numsM s 2 = (fld s.data.toList 12 2 : Int) ∧ numsM s 3 = (fld s.data.toList 14 8 : Int) := by
  have hl : s.data.toList.length = 22 := by simpa using h
  rw [numsM_0, numsM_1, numsM_2, numsM_3]
  exact ⟨num_fld _ 0 4 (by omega) (by omega), num_fld _ 4 8 (by omega) (by omega), num_fld _ 12 2 (by omega) (by omega), num_fld _ 14 8 (by omega) (by omega)⟩
theorem w64 (n : Int) (h : 0 ≤ n ∧ n < 18446744073709551616) : IntKind.u64.wrap n = n := by rw [IntKind.wrap_u64]; omega
theorem wv0 (v : Nat) (h : v < 4294967296) : IntKind.u64.wrap ((v : Int) % 4294967296) = v := by rw [IntKind.wrap_u64]; omega
theorem wv1 (v : Nat) (h : v < 18446744073709551616) : IntKind.u64.wrap (wrap64 (v : Int)) = v := by rw [IntKind.wrap_u64]; unfold wrap64; omega
theorem wv2 (v : Nat) (h : v < 65536) : IntKind.u64.wrap (IntKind.u16.wrap (v : Int)) = v := by rw [IntKind.wrap_u64, IntKind.wrap_u16]; omega
/-- A mail's bytes are a mail again. -/
theorem parse_mb {m0 m1 m2 m3 : Int} (hm : mailOk m0 m1 m2 m3 = true) (h2 : 0 ≤ m2 ∧ m2 < 65536) : mail_Parse.f (mbF m0 m1 m2 m3).1 = some (m0, m1, m2, m3, 0) := by
  obtain ⟨f0, f1, f2, f3, f4, f5, f6⟩ := mail_fields hm
  obtain ⟨n0, rfl⟩ : ∃ n : Nat, m0 = (n : Int) := ⟨m0.toNat, by omega⟩
  obtain ⟨n1, rfl⟩ : ∃ n : Nat, m1 = (n : Int) := ⟨m1.toNat, by omega⟩
  obtain ⟨n2, rfl⟩ : ∃ n : Nat, m2 = (n : Int) := ⟨m2.toNat, by omega⟩
  obtain ⟨n3, rfl⟩ : ∃ n : Nat, m3 = (n : Int) := ⟨m3.toNat, by omega⟩
  unfold mbF
  rw [if_pos hm, w64 _ (by omega), w64 _ (by omega), w64 _ (by omega), w64 _ (by omega)]
  have hs := str_be4 n0 n1 n2 n3 4 8 2 8
  generalize strOfNums (bsD (n0 : Int) 4 ++ bsD (n1 : Int) 8 ++ bsD (n2 : Int) 2 ++ bsD (n3 : Int) 8) = s at hs
  obtain ⟨hl, g0, g1, g2, g3⟩ := fld4 n0 n1 n2 n3 4 8 2 8 (by omega) (by omega) (by omega) (by omega) (by omega) (by omega) (by omega) (by omega) _ hs.symm
  have hz : s.size = 22 := by simpa using hl
  obtain ⟨q0, q1, q2, q3⟩ := nums_fld s hz
  rw [g0] at q0
  rw [g1] at q1
  rw [show 12 = 4 + 8 from rfl, g2] at q2
  rw [show 14 = 4 + 8 + 2 from rfl, g3] at q3
  unfold mail_Parse.f mpF
  have w0 : (n0 : Int) % 4294967296 = n0 := by omega
  have w1 : wrap64 (n1 : Int) = n1 := by unfold wrap64; omega
  have w2 : IntKind.u16.wrap (n2 : Int) = n2 := by rw [IntKind.wrap_u16]; omega
  have w3 : wrap64 (n3 : Int) = n3 := by unfold wrap64; omega
  rw [if_pos hz, q0, q1, q2, q3, w0, w1, w2, w3, if_pos hm]
/-- The mail of bytes has just these bytes. -/
theorem mb_parse {s : ByteArray} {k0 k1 k2 k3 e : Int} (h : mail_Parse.f s = some (k0, k1, k2, k3, e)) (he : e = 0) : mbF k0 k1 k2 k3 = (s, 0) := by
  subst he
  unfold mail_Parse.f at h
  by_cases hz : s.size = 22
  · rw [if_pos hz] at h
    unfold mpF at h
    by_cases hm : mailOk (numsM s 0 % 4294967296) (wrap64 (numsM s 1)) (IntKind.u16.wrap (numsM s 2)) (wrap64 (numsM s 3)) = true
    · rw [if_pos hm] at h
      simp only [Option.some.injEq, Prod.mk.injEq] at h
      obtain ⟨rfl, rfl, rfl, rfl, _⟩ := h
      have hl : s.data.toList.length = 22 := by simpa using hz
      unfold mbF
      rw [if_pos hm]
      obtain ⟨q0, q1, q2, q3⟩ := nums_fld s hz
      have b0 : fld s.data.toList 0 4 < 4294967296 := fld_lt s.data.toList 0 4 (by omega)
      have b1 : fld s.data.toList 4 8 < 18446744073709551616 := fld_lt s.data.toList 4 8 (by omega)
      have b2 : fld s.data.toList 12 2 < 65536 := fld_lt s.data.toList 12 2 (by omega)
      have b3 : fld s.data.toList 14 8 < 18446744073709551616 := fld_lt s.data.toList 14 8 (by omega)
      have hb := back4 s.data.toList 4 8 2 8 (by omega) (by omega) (by omega) (by omega) hl
      rw [q0, q1, q2, q3]
      clear q0 q1 q2 q3 hm
      generalize fld s.data.toList 0 4 = v0 at *
      generalize fld s.data.toList 4 8 = v1 at *
      generalize hv2 : fld s.data.toList 12 2 = v2 at *
      generalize hv3 : fld s.data.toList 14 8 = v3 at *
      have w0 := wv0 v0 b0
      have w1 := wv1 v1 b1
      have w2 := wv2 v2 b2
      have w3 := wv1 v3 b3
      rw [w0, w1, w2, w3]
      have hs := str_be4 v0 v1 v2 v3 4 8 2 8
      rw [hb] at hs
      rw [WideShapes.bytes_inj hs]
    · rw [if_neg hm] at h
      simp at h
  · rw [if_neg hz] at h
    simp at h
theorem parse_some (s : ByteArray) : ∃ k0 k1 k2 k3 e, mail_Parse.f s = some (k0, k1, k2, k3, e) := by
  unfold mail_Parse.f
  split
  · exact ⟨_, _, _, _, _, rfl⟩
  · exact ⟨_, _, _, _, _, rfl⟩
theorem back_j1 (k : Nat) (hk : 1001 ≤ k) (l : List S25) (hl : l.length ≤ 30) (a0 a1 m0 m1 m2 m3 : Int) : bazaarlaw14_MailBack.j1 (k + 1) l true false a0 a1 m0 m1 m2 m3 = some true := by
  have hc := send_len a0 a1 l m0 m1 m2 m3
  rw [bazaarlaw14_MailBack.j1, if_neg (by simp), send_f (by omega)]
  simp only [Option.bind_some]
  rw [claim_f (by omega)]
  simp only [Option.bind_some, if_true]
  obtain ⟨c0, c1, x, e, hs⟩ : ∃ c0 c1 x e, sendS a0 a1 l m0 m1 m2 m3 = (c0, c1, x, e) := ⟨_, _, _, _, rfl⟩
  rw [hs]
  simp only
  by_cases he : e = 0
  · subst he
    rw [send_claim a0 a1 l m0 m1 m2 m3 c0 c1 x hs]
    simp [same_f l (by omega) k hk]
  · rw [if_neg he]
theorem back_j0 (k : Nat) (hk : 1001 ≤ k) (hk2 : k + 1 = 1200) (l : List S25) (hl : l.length ≤ 30) (s : ByteArray) (a0 a1 m0 m1 m2 m3 : Int) : bazaarlaw14_MailBack.j0 1201 l s true false a0 a1 m0 m1 m2 m3 = some true := by
  rw [bazaarlaw14_MailBack.j0, if_neg (by simp)]
  obtain ⟨k0, k1, k2, k3, e, hp⟩ := parse_some s
  rw [hp]
  simp only [Option.bind_some]
  rw [mb_is]
  simp only [Option.bind_some]
  have hj := back_j1 k hk l hl a0 a1 m0 m1 m2 m3
  rw [hk2] at hj
  by_cases he : e = 0
  · rw [if_pos he, mb_parse hp he]
    simp [hj]
  · rw [if_neg he]
    exact hj
theorem mailback_f (a0 a1 : Int) (l : List S25) (m0 m1 m2 m3 : Int) (h2 : 0 ≤ m2 ∧ m2 < 65536) (s : ByteArray) (ws : s.size ≤ 140737488351232) : bazaarlaw14_MailBack.f 1201 a0 a1 l m0 m1 m2 m3 s = some true := by
  unfold bazaarlaw14_MailBack.f
  have hm : 0 ≤ mn (s.size : Int) 40 ∧ mn (s.size : Int) 40 ≤ s.size ∧ mn (s.size : Int) 40 ≤ 40 := by unfold mn; split <;> omega
  rw [shown14_f, cut14_f]
  simp only [Option.bind_some]
  rw [if_pos hm.1, if_pos hm.2.1, mb_is1]
  simp only [Option.bind_some]
  have hl := cut30 l
  have hj := fun u => back_j0 1199 (by omega) rfl (l.take 30) hl u a0 a1 m0 m1 m2 m3
  obtain ⟨k0, k1, k2, k3, e, hp⟩ := parse_some (mbF m0 m1 m2 m3).1
  by_cases hok : mailOk m0 m1 m2 m3 = true
  · have hq := parse_mb hok h2
    have h20 : (mbF m0 m1 m2 m3).2 = 0 := by unfold mbF; rw [if_pos hok]
    rw [hq]
    simp only [Option.bind_some]
    rw [if_pos h20]
    simp [hj]
  · have h20 : ¬ (mbF m0 m1 m2 m3).2 = 0 := by unfold mbF; rw [if_neg hok]; simp
    rw [hp]
    simp only [Option.bind_some]
    rw [if_neg h20]
    exact hj _
end Go.Proofs.YtoclldkgkmhgaaaDoor.K
