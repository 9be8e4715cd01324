/- Plain facts of keys.Parse over keys.Key. -/
import Derived.Test.YtfncbcbhhddnpaaPLib
namespace Go.Proofs.Ytfncbcbhhddnpaa.Pure
open Go.RowKit Go.Proofs.Ytfncbcbhhddnpaa.K Go.Proofs.YtfncbcbhhddnpaaW.PrintWords Go.Proofs.YtfncbcbhhddnpaaW.PrintLast Go.Proofs.YtfncbcbhhddnpaaW.PrintMore
set_option linter.unusedVariables false
set_option linter.unusedSimpArgs false

theorem right_cases {k a i m : Int} (h : rightB k a i m = true) :
    (k = 3 ∧ (1 ≤ m ∧ m ≤ 1073741824) ∧ i = 0 ∧ (1 ≤ a ∧ a ≤ 1000000)) ∨ (k = 1 ∧ m = 0 ∧ i = 0 ∧ (1 ≤ a ∧ a ≤ 1000000)) ∨ (k = 2 ∧ m = 0 ∧ (1 ≤ a ∧ a ≤ 1000000)) ∨
    (k = 4 ∧ m = 0 ∧ i = 0 ∧ (1 ≤ a ∧ a ≤ 1073741824)) ∨ (k = 5 ∧ m = 0 ∧ i = 0 ∧ (1 ≤ a ∧ a ≤ 2)) ∨ (k = 6 ∧ m = 0 ∧ (0 ≤ a ∧ a ≤ 1)) := by
  simp only [rightB, Bool.or_eq_true, Bool.and_eq_true, beq_iff_eq, decide_eq_true_eq] at h
  rcases h with ((((h | h) | h) | h) | h) | h
  · exact .inl ⟨h.1.1.1, h.1.1.2, h.1.2, h.2⟩
  · exact .inr (.inl ⟨h.1.1.1, h.1.1.2, h.1.2, h.2⟩)
  · exact .inr (.inr (.inl ⟨h.1.1, h.1.2, h.2⟩))
  · exact .inr (.inr (.inr (.inl ⟨h.1.1.1, h.1.1.2, h.1.2, h.2⟩)))
  · exact .inr (.inr (.inr (.inr (.inl ⟨h.1.1.1, h.1.1.2, h.1.2, h.2⟩))))
  · exact .inr (.inr (.inr (.inr (.inr ⟨h.1.1, h.1.2, h.2⟩))))

theorem drop_be (n : Int) (z : Nat) (l : List UInt8) : (be n z ++ l).drop z = l := List.drop_left' (be_length n z)
theorem wrap16 {n : Int} (h0 : 0 ≤ n) (h1 : n ≤ 65535) : IntKind.u16.wrap n = n := by rw [IntKind.wrap_u16]; omega

theorem parse_kb {k a i m : Int} (h : rightB k a i m = true) (h0 : 0 ≤ i) (h1 : i ≤ 65535) : keys_Parse.f (str (kbL k a i m)) = some (k, a, i, m, 0) := by
  have hf : ∀ f : K.Form, f ∈ formsL → fits (kbL k a i m) f = true → keyA (kbL k a i m) f.a.toNat = a → keyI (kbL k a i m) f.a.toNat f.i.toNat = i → keyM (kbL k a i m) f.a.toNat f.i.toNat f.m.toNat = m → f.kind = k → keys_Parse.f (str (kbL k a i m)) = some (k, a, i, m, 0) := by
    intro f hf hfit ea ei em ek
    have hs : (str (kbL k a i m)).size = 1 + (fa k).toNat + (fi k).toNat + (fl k).toNat := by
      show (kbL k a i m).length = _
      simp [kbL, be_length]
      omega
    unfold keys_Parse.f
    rw [if_neg (by rw [hs]; have := (fa_nat k).2; have := (fi_nat k).2; have := (fl_nat k).2; omega)]
    simp only [str_toList, kindF_hit hf hfit, ea, ei, em, ek]
    rw [if_neg (by have := right_cases h; omega), if_pos h]
  rcases right_cases h with ⟨rfl, hm, rfl, ha⟩ | ⟨rfl, rfl, rfl, ha⟩ | ⟨rfl, rfl, ha⟩ | ⟨rfl, rfl, rfl, ha⟩ | ⟨rfl, rfl, rfl, ha⟩ | ⟨rfl, rfl, ha⟩
  · refine hf ⟨3, 109, 4, 0, 4⟩ (by simp [formsL]) (by simp [fits, kbL, be_length, fmark, fa, fi, fl]) (num_be4 a (by omega) (by omega) _) rfl ?_ rfl
    show num32 ((be a 4 ++ (be 0 0 ++ be m 4)).drop 4) 4 = m
    rw [drop_be, be0, List.nil_append, ← List.append_nil (be m 4), num_be4 m (by omega) (by omega)]
  · exact hf ⟨1, 97, 4, 0, 0⟩ (by simp [formsL]) (by simp [fits, kbL, be_length, fmark, fa, fi, fl]) (num_be4 a (by omega) (by omega) _) rfl rfl rfl
  · refine hf ⟨2, 105, 4, 2, 0⟩ (by simp [formsL]) (by simp [fits, kbL, be_length, fmark, fa, fi, fl]) (num_be4 a (by omega) (by omega) _) ?_ rfl rfl
    show IntKind.u16.wrap (num32 ((be a 4 ++ (be i 2 ++ be 0 0)).drop 4) 2) = i
    rw [drop_be, num_be2 i (by omega) (by omega), wrap16 h0 h1]
  · exact hf ⟨4, 115, 4, 0, 0⟩ (by simp [formsL]) (by simp [fits, kbL, be_length, fmark, fa, fi, fl]) (num_be4 a (by omega) (by omega) _) rfl rfl rfl
  · exact hf ⟨5, 110, 1, 0, 0⟩ (by simp [formsL]) (by simp [fits, kbL, be_length, fmark, fa, fi, fl]) (num_be1 a (by omega) (by omega) _) rfl rfl rfl
  · refine hf ⟨6, 116, 1, 2, 0⟩ (by simp [formsL]) (by simp [fits, kbL, be_length, fmark, fa, fi, fl]) (num_be1 a (by omega) (by omega) _) ?_ rfl rfl
    show IntKind.u16.wrap (num32 ((be a 1 ++ (be i 2 ++ be 0 0)).drop 1) 2) = i
    rw [drop_be, num_be2 i (by omega) (by omega), wrap16 h0 h1]

theorem kb_inj {k a i m k' a' i' m' : Int} (h : rightB k a i m = true) (h0 : 0 ≤ i) (h1 : i ≤ 65535) (h' : rightB k' a' i' m' = true) (h0' : 0 ≤ i') (h1' : i' ≤ 65535) (e : kbL k a i m = kbL k' a' i' m') :
    k = k' ∧ a = a' ∧ i = i' ∧ m = m' := by
  have := parse_kb h h0 h1
  rw [e, parse_kb h' h0' h1'] at this
  simp only [Option.some.injEq, Prod.mk.injEq] at this
  obtain ⟨e1, e2, e3, e4, _⟩ := this
  exact ⟨e1.symm, e2.symm, e3.symm, e4.symm⟩

theorem kindF_cases (l : List UInt8) : kindF l = ⟨0, 0, 0, 0, 0⟩ ∨ (kindF l ∈ formsL ∧ fits l (kindF l) = true) := by
  unfold kindF
  cases h : formsL.find? (fits l) with
  | none => exact .inl rfl
  | some f => exact .inr ⟨List.mem_of_find?_eq_some h, by simpa using List.find?_some h⟩

theorem parse_cases (s : ByteArray) (h : s.size ≤ 1000) :
    keys_Parse.f s = some (0, 0, 0, 0, 100) ∨ ∃ k a i m, keys_Parse.f s = some (k, a, i, m, 0) ∧ rightB k a i m = true ∧ 0 ≤ i ∧ i ≤ 65535 ∧ kbL k a i m = s.data.toList := by
  unfold keys_Parse.f
  rw [if_neg (by omega)]
  generalize s.data.toList = l
  by_cases hk : (kindF l).kind = 0
  · rw [if_pos hk]; exact .inl rfl
  rw [if_neg hk]
  cases hr : rightB (kindF l).kind (keyA l (kindF l).a.toNat) (keyI l (kindF l).a.toNat (kindF l).i.toNat) (keyM l (kindF l).a.toNat (kindF l).i.toNat (kindF l).m.toNat) with
  | false => rw [if_neg (by simp)]; exact .inl rfl
  | true =>
    rw [if_pos rfl]
    refine .inr ⟨_, _, _, _, rfl, hr, ?_⟩
    have hw : ∀ x : Int, 0 ≤ IntKind.u16.wrap x ∧ IntKind.u16.wrap x ≤ 65535 := fun x => by rw [IntKind.wrap_u16]; omega
    refine ⟨(hw _).1, (hw _).2, ?_⟩
    rcases kindF_cases l with h0 | ⟨hm, hf⟩
    · rw [h0] at hk; exact absurd rfl hk
    · generalize kindF l = f at hm hf
      simp only [formsL, List.mem_cons, List.not_mem_nil, or_false] at hm
      simp only [fits, Bool.and_eq_true, beq_iff_eq, Bool.not_eq_true', decide_eq_true_eq] at hf
      obtain ⟨⟨hne, hmk⟩, hlen⟩ := hf
      have mkE : ∀ (x : UInt8) (n : Nat), (x.toNat : Int) = (n : Int) → UInt8.ofNat n = x := fun x n h => ofNat_eq (by omega)
      have cv : ∀ x y : UInt8, IntKind.u16.wrap (num32 [x, y] 2) = num32 [x, y] 2 := fun x y => by
        rw [num32_2]
        have := x.toNat_lt
        have := y.toNat_lt
        exact wrap16 (by omega) (by omega)
      rcases hm with rfl | rfl | rfl | rfl | rfl | rfl
      · match l, hlen with
        | [x, y, z, u, v], _ =>
          have e := mkE x 97 hmk
          show UInt8.ofNat 97 :: (be (num32 [y, z, u, v] 4) 4 ++ ([] ++ [])) = _
          rw [be_num4, e]; rfl
      · match l, hlen with
        | [x, y, z, u, v, p, q], _ =>
          have e := mkE x 105 hmk
          show UInt8.ofNat 105 :: (be (num32 [y, z, u, v, p, q] 4) 4 ++ (be (IntKind.u16.wrap (num32 [p, q] 2)) 2 ++ [])) = _
          rw [be_num4, cv, be_num2, e]; rfl
      · match l, hlen with
        | [x, y, z, u, v, p, q, r, t], _ =>
          have e := mkE x 109 hmk
          show UInt8.ofNat 109 :: (be (num32 [y, z, u, v, p, q, r, t] 4) 4 ++ ([] ++ be (num32 [p, q, r, t] 4) 4)) = _
          rw [be_num4, be_num4, e]; rfl
      · match l, hlen with
        | [x, y, z, u, v], _ =>
          have e := mkE x 115 hmk
          show UInt8.ofNat 115 :: (be (num32 [y, z, u, v] 4) 4 ++ ([] ++ [])) = _
          rw [be_num4, e]; rfl
      · match l, hlen with
        | [x, y], _ =>
          have e := mkE x 110 hmk
          show UInt8.ofNat 110 :: (be (num32 [y] 1) 1 ++ ([] ++ [])) = _
          rw [be_num1, e]; rfl
      · match l, hlen with
        | [x, y, p, q], _ =>
          have e := mkE x 116 hmk
          show UInt8.ofNat 116 :: (be (num32 [y, p, q] 1) 1 ++ (be (IntKind.u16.wrap (num32 [p, q] 2)) 2 ++ [])) = _
          rw [be_num1, cv, be_num2, e]; rfl

theorem shown_true : bazaarlaw10_shown.f = some true := by
  unfold bazaarlaw10_shown.f
  rw [key_right (k := 2) (a := 1) (i := 258) (m := 0) (by decide) (by decide) (by decide)]
  have e : keys_Parse.f (⟨#[]⟩ : ByteArray) = some (0, 0, 0, 0, 100) := by decide
  rw [e]
  have e2 : (str (kbL 2 1 258 0)).toList = [105, 0, 0, 0, 1, 1, 2] := by rw [str_list]; decide
  simp [e2]

theorem wf_u16 {n : Int} (h : (Lit.int .u16 n).wf = true) : 0 ≤ n ∧ n ≤ 65535 := by
  simp [Lit.wf, IntKind.min, IntKind.max, IntKind.signed, IntKind.bits] at h
  omega

theorem key_cases (k a i m : Int) (wi : (Lit.int .u16 i).wf = true) :
    (rightB k a i m = true ∧ keys_Key.f k a i m = some (str (kbL k a i m), 0)) ∨ (rightB k a i m = false ∧ keys_Key.f k a i m = some (⟨#[]⟩, 100)) := by
  cases h : rightB k a i m with
  | true => exact .inl ⟨rfl, key_right h (wf_u16 wi).1 (wf_u16 wi).2⟩
  | false => exact .inr ⟨rfl, key_wrong h (wf_u16 wi).1 (wf_u16 wi).2⟩
end Go.Proofs.Ytfncbcbhhddnpaa.Pure
