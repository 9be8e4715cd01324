/- The plain law ShopBack. -/
import Derived.Test.YtoclldkgkmhgaaaDoorPSBy
import Derived.Test.YtoclldkgkmhgaaaDoorKx73
namespace Go.Proofs.YtoclldkgkmhgaaaDoor.K
open Go.RowKit Go.Proofs.YtoclldkgkmhgaaaDoorW.PrintWords Go.Proofs.YtoclldkgkmhgaaaDoorW.PrintLast Go.Proofs.YtoclldkgkmhgaaaDoorW.PrintMore
attribute [local irreducible] numsP num64 fld
set_option linter.unusedVariables false
set_option linter.unusedSimpArgs false

/-- What was listed may be canceled, and all is as it was. -/
theorem list_cancel (l m : List S25) (x0 x1 x2 x3 : Int) (h : listS l x0 x1 x2 x3 = (m, 0)) : cancelS m x0 x1 x2 x3 = (l, 0) := by
  unfold listS at h
  unfold cancelS
  by_cases hm : listOk x0 x1 x2 x3 = true
  · rw [if_pos hm] at h ⊢
    exact give_take h
  · rw [if_neg hm] at h
    simp at h
theorem w64 (n : Int) (h : 0 ≤ n ∧ n < 18446744073709551616) : IntKind.u64.wrap n = n := by rw [IntKind.wrap_u64]; omega
theorem wv0 (v : Nat) (h : v < 4294967296) : IntKind.u64.wrap ((v : Int) % 4294967296) = v := by rw [IntKind.wrap_u64]; omega
theorem wv1 (v : Nat) (h : v < 18446744073709551616) : IntKind.u64.wrap (wrap64 (v : Int)) = v := by rw [IntKind.wrap_u64]; unfold wrap64; omega
theorem wv2 (v : Nat) (h : v < 65536) : IntKind.u64.wrap (IntKind.u16.wrap (v : Int)) = v := by rw [IntKind.wrap_u64, IntKind.wrap_u16]; omega
theorem nums_fldP (s : ByteArray) (h : s.size = 22) : numsP s 0 = (fld s.data.toList 0 4 : Int) ∧ numsP s 1 = (fld s.data.toList 4 2 : Int) ∧ numsP s 2 = (fld s.data.toList 6 8 : Int) ∧ numsP s 3 = (fld s.data.toList 14 8 : Int) := by
  have hl : s.data.toList.length = 22 := by simpa using h
  rw [numsP_0, numsP_1, numsP_2, numsP_3]
  exact ⟨num_fld _ 0 4 (by omega) (by omega), num_fld _ 4 2 (by omega) (by omega), num_fld _ 6 8 (by omega) (by omega), num_fld _ 14 8 (by omega) (by omega)⟩
/-- A listing's bytes are a listing again. -/
theorem parse_sb {x0 x1 x2 x3 : Int} (hm : listOk x0 x1 x2 x3 = true) (h1 : 0 ≤ x1 ∧ x1 < 65536) : shop_Parse.f (sbF x0 x1 x2 x3).1 = some (x0, x1, x2, x3, 0) := by
  obtain ⟨f0, f1, f2, f3, f4, f5⟩ := list_fields hm
  obtain ⟨n0, rfl⟩ : ∃ n : Nat, x0 = (n : Int) := ⟨x0.toNat, by omega⟩
  obtain ⟨n1, rfl⟩ : ∃ n : Nat, x1 = (n : Int) := ⟨x1.toNat, by omega⟩
  obtain ⟨n2, rfl⟩ : ∃ n : Nat, x2 = (n : Int) := ⟨x2.toNat, by omega⟩
  obtain ⟨n3, rfl⟩ : ∃ n : Nat, x3 = (n : Int) := ⟨x3.toNat, by omega⟩
  unfold sbF
  rw [if_pos hm, w64 _ (by omega), w64 _ (by omega), w64 _ (by omega), w64 _ (by omega)]
  have hs := str_be4 n0 n1 n2 n3 4 2 8 8
  generalize strOfNums (bsD (n0 : Int) 4 ++ bsD (n1 : Int) 2 ++ bsD (n2 : Int) 8 ++ bsD (n3 : Int) 8) = s at hs
  obtain ⟨hl, g0, g1, g2, g3⟩ := fld4 n0 n1 n2 n3 4 2 8 8 (by omega) (by omega) (by omega) (by omega) (by omega) (by omega) (by omega) (by omega) _ hs.symm
  have hz : s.size = 22 := by simpa using hl
  obtain ⟨q0, q1, q2, q3⟩ := nums_fldP s hz
  rw [g0] at q0
  rw [g1] at q1
  rw [show 6 = 4 + 2 from rfl, g2] at q2
  rw [show 14 = 4 + 2 + 8 from rfl, g3] at q3
  unfold shop_Parse.f spF
  have w0 : (n0 : Int) % 4294967296 = n0 := by omega
  have w1 : IntKind.u16.wrap (n1 : Int) = n1 := by rw [IntKind.wrap_u16]; omega
  have w2 : wrap64 (n2 : Int) = n2 := by unfold wrap64; omega
  have w3 : wrap64 (n3 : Int) = n3 := by unfold wrap64; omega
  rw [if_pos hz, q0, q1, q2, q3, w0, w1, w2, w3, if_pos hm]
/-- The listing of bytes has just these bytes. -/
theorem sb_parse {s : ByteArray} {k0 k1 k2 k3 e : Int} (h : shop_Parse.f s = some (k0, k1, k2, k3, e)) (he : e = 0) : sbF k0 k1 k2 k3 = (s, 0) := by
  subst he
  unfold shop_Parse.f at h
  by_cases hz : s.size = 22
  · rw [if_pos hz] at h
    unfold spF at h
    by_cases hm : listOk (numsP s 0 % 4294967296) (IntKind.u16.wrap (numsP s 1)) (wrap64 (numsP s 2)) (wrap64 (numsP s 3)) = true
    · rw [if_pos hm] at h
      simp only [Option.some.injEq, Prod.mk.injEq] at h
      obtain ⟨rfl, rfl, rfl, rfl, _⟩ := h
      have hl : s.data.toList.length = 22 := by simpa using hz
      unfold sbF
      rw [if_pos hm]
      obtain ⟨q0, q1, q2, q3⟩ := nums_fldP s hz
      have b0 : fld s.data.toList 0 4 < 4294967296 := fld_lt s.data.toList 0 4 (by omega)
      have b1 : fld s.data.toList 4 2 < 65536 := fld_lt s.data.toList 4 2 (by omega)
      have b2 : fld s.data.toList 6 8 < 18446744073709551616 := fld_lt s.data.toList 6 8 (by omega)
      have b3 : fld s.data.toList 14 8 < 18446744073709551616 := fld_lt s.data.toList 14 8 (by omega)
      have hb := back4 s.data.toList 4 2 8 8 (by omega) (by omega) (by omega) (by omega) hl
      rw [q0, q1, q2, q3]
      clear q0 q1 q2 q3 hm
      generalize fld s.data.toList 0 4 = v0 at *
      generalize fld s.data.toList 4 2 = v1 at *
      generalize hv2 : fld s.data.toList 6 8 = v2 at *
      generalize hv3 : fld s.data.toList 14 8 = v3 at *
      have w0 := wv0 v0 b0
      have w1 := wv2 v1 b1
      have w2 := wv1 v2 b2
      have w3 := wv1 v3 b3
      rw [w0, w1, w2, w3]
      have hs := str_be4 v0 v1 v2 v3 4 2 8 8
      rw [hb] at hs
      rw [WideShapes.bytes_inj hs]
    · rw [if_neg hm] at h
      simp at h
  · rw [if_neg hz] at h
    simp at h
theorem sparse_some (s : ByteArray) : ∃ k0 k1 k2 k3 e, shop_Parse.f s = some (k0, k1, k2, k3, e) := by
  unfold shop_Parse.f
  split
  · exact ⟨_, _, _, _, _, rfl⟩
  · exact ⟨_, _, _, _, _, rfl⟩
theorem sback_j1 (k : Nat) (hk : 1001 ≤ k) (l : List S25) (hl : l.length ≤ 30) (x0 x1 x2 x3 : Int) : bazaarlaw15_ShopBack.j1 (k + 1) l true false x0 x1 x2 x3 = some true := by
  have hc := list_len l x0 x1 x2 x3
  rw [bazaarlaw15_ShopBack.j1, if_neg (by simp), list_f (by omega)]
  simp only [Option.bind_some]
  rw [cancel_f (by omega)]
  simp only [Option.bind_some, if_true]
  obtain ⟨m, e, hs⟩ : ∃ m e, listS l x0 x1 x2 x3 = (m, e) := ⟨_, _, rfl⟩
  rw [hs]
  simp only
  by_cases he : e = 0
  · subst he
    rw [list_cancel l m x0 x1 x2 x3 hs]
    simp [same_f l (by omega) k hk]
  · rw [if_neg he]
theorem sback_j0 (l : List S25) (hl : l.length ≤ 30) (s : ByteArray) (x0 x1 x2 x3 : Int) : bazaarlaw15_ShopBack.j0 1200 l s true false x0 x1 x2 x3 = some true := by
  rw [show (1200 : Nat) = 1199 + 1 from rfl, bazaarlaw15_ShopBack.j0, if_neg (by simp)]
  obtain ⟨k0, k1, k2, k3, e, hp⟩ := sparse_some s
  rw [hp]
  simp only [Option.bind_some]
  rw [sb_is]
  simp only [Option.bind_some]
  have hj : bazaarlaw15_ShopBack.j1 1199 l true false x0 x1 x2 x3 = some true := sback_j1 1198 (by omega) l hl x0 x1 x2 x3
  by_cases he : e = 0
  · rw [if_pos he, sb_parse hp he]
    simp [hj]
  · rw [if_neg he]
    exact hj
theorem shopback_f (l : List S25) (x0 x1 x2 x3 : Int) (h1 : 0 ≤ x1 ∧ x1 < 65536) (s : ByteArray) (ws : s.size ≤ 140737488351232) : bazaarlaw15_ShopBack.f 1200 l x0 x1 x2 x3 s = some true := by
  unfold bazaarlaw15_ShopBack.f
  have hm : 0 ≤ mn (s.size : Int) 40 ∧ mn (s.size : Int) 40 ≤ s.size ∧ mn (s.size : Int) 40 ≤ 40 := by unfold mn; split <;> omega
  rw [shown15_f 1200 (by omega), cut15_f]
  simp only [Option.bind_some]
  rw [if_pos hm.1, if_pos hm.2.1, sb_is]
  simp only [Option.bind_some]
  have hl := cut15_len l
  have hj := fun u => sback_j0 (l.take 30) hl u x0 x1 x2 x3
  obtain ⟨k0, k1, k2, k3, e, hp⟩ := sparse_some (sbF x0 x1 x2 x3).1
  by_cases hok : listOk x0 x1 x2 x3 = true
  · have hq := parse_sb hok h1
    have h20 : (sbF x0 x1 x2 x3).2 = 0 := by unfold sbF; rw [if_pos hok]
    rw [hq]
    simp only [Option.bind_some]
    rw [if_pos h20]
    simp [hj]
  · have h20 : ¬ (sbF x0 x1 x2 x3).2 = 0 := by unfold sbF; rw [if_neg hok]; simp
    rw [hp]
    simp only [Option.bind_some]
    rw [if_neg h20]
    exact hj _
end Go.Proofs.YtoclldkgkmhgaaaDoor.K
