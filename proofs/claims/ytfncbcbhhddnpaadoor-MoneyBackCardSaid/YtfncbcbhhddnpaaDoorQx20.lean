-- Printed by a program of this session (a turned copy of the print); what it takes as given stands in the seat's own texts.
import Derived.Test.YtfncbcbhhddnpaaDoorQx0
import Derived.Test.YtfncbcbhhddnpaaDoorQx6
import Derived.Test.YtfncbcbhhddnpaaDoorQx11
import Derived.Test.YtfncbcbhhddnpaaDoorQx18
import Derived.Test.YtfncbcbhhddnpaaDoorMParse
namespace Go.Proofs.YtfncbcbhhddnpaaDoor.Q
open Go.Proofs.YtfncbcbhhddnpaaDoor.K
open Go.RowKit Go.Proofs.YtfncbcbhhddnpaaDoorW.PrintWords Go.Proofs.YtfncbcbhhddnpaaDoorW.PrintLast Go.Proofs.YtfncbcbhhddnpaaDoorW.PrintMore
attribute [local go_sem] max2_int min2_int max_two min_two max_three min_three max_four min_four   -- for this text's walks alone
set_option linter.unusedVariables false
set_option linter.unusedSimpArgs false

/-! ### bazaarlaw11_MoneyBack: function 9 -/
def bazaarlaw11_MoneyBack.j0 : Nat → ByteArray → Bool → Bool → Option (Bool)
  | 0, _, _, _ => none
  | k + 1, x1, x5, x46 => if x46 = true then (some false) else ((money_Parse.f x1).bind fun bt154 => ((money_Bytes.f k bt154.1).bind fun bt158 => (if x5 = true then (if bt154.2 = 0 then (if bt158.2 = 0 then (some (bt158.1.toList == x1.toList)) else (some false)) else (some true)) else (some false))))
def bazaarlaw11_MoneyBack.f (k : Nat) (l0 : List Int) (a1 : ByteArray) : Option (Bool) := (bazaarlaw11_shown.f).bind fun t145 => (if 0 ≤ (mn (l0.length : Int) 30) then (if (mn (l0.length : Int) 30) ≤ (l0.length : Int) then (if 0 ≤ (mn (a1.size : Int) 200) then (if (mn (a1.size : Int) 200) ≤ (a1.size : Int) then ((money_Bytes.f k (l0.take ((mn (l0.length : Int) 30) : Int).toNat)).bind fun bt147 => ((money_Parse.f bt147.1).bind fun bt149 => (if bt147.2 = 0 then (if bt149.2 = 0 then ((bazaarref11_Same.f k (l0.take ((mn (l0.length : Int) 30) : Int).toNat) bt149.1).bind fun t153 => (bazaarlaw11_MoneyBack.j0 k (a1.extract 0 ((mn (a1.size : Int) 200) : Int).toNat) t145 (!t153))) else (bazaarlaw11_MoneyBack.j0 k (a1.extract 0 ((mn (a1.size : Int) 200) : Int).toNat) t145 true)) else (bazaarlaw11_MoneyBack.j0 k (a1.extract 0 ((mn (a1.size : Int) 200) : Int).toNat) t145 false)))) else (none)) else (none)) else (none)) else (none))
theorem bazaarlaw11_MoneyBack.mono_l : ∀ k, (∀ y0 y1 y2, LeO (bazaarlaw11_MoneyBack.j0 k y0 y1 y2) (bazaarlaw11_MoneyBack.j0 (k + 1) y0 y1 y2))
  | 0 => fun _ _ _ r h => by simp [bazaarlaw11_MoneyBack.j0] at h
  | k + 1 => by
    have ih0 := bazaarlaw11_MoneyBack.mono_l k
    · intro y0 y1 y2
      unfold bazaarlaw11_MoneyBack.j0
      repeat' first
      | (with_reducible exact ih0 _ _ _)
      | (with_reducible exact bazaarref11_Same.mono _ _ _)
      | (with_reducible exact money_Bytes.mono _ _)
      | (with_reducible exact LeO.refl _)
      | (with_reducible exact LeO.none _)
      | (with_reducible refine LeO.ite ?_ ?_)
      | (with_reducible refine LeO.bind ?_ (fun _ => ?_))
      | exact ih0 _ _ _
      | exact bazaarref11_Same.mono _ _ _
      | exact money_Bytes.mono _ _
      | exact LeO.none _
      | refine LeO.ite ?_ ?_
      | refine LeO.bind ?_ (fun _ => ?_)
theorem bazaarlaw11_MoneyBack.mono : ∀ a0 a1 k, LeO (bazaarlaw11_MoneyBack.f k a0 a1) (bazaarlaw11_MoneyBack.f (k + 1) a0 a1) := by
  intro a0 a1 k
  have ih0 := bazaarlaw11_MoneyBack.mono_l k
  unfold bazaarlaw11_MoneyBack.f
  repeat' first
      | (with_reducible exact ih0 _ _ _)
      | (with_reducible exact bazaarref11_Same.mono _ _ _)
      | (with_reducible exact money_Bytes.mono _ _)
      | (with_reducible exact LeO.refl _)
      | (with_reducible exact LeO.none _)
      | (with_reducible refine LeO.ite ?_ ?_)
      | (with_reducible refine LeO.bind ?_ (fun _ => ?_))
      | exact ih0 _ _ _
      | exact bazaarref11_Same.mono _ _ _
      | exact money_Bytes.mono _ _
      | exact LeO.none _
      | refine LeO.ite ?_ ?_
      | refine LeO.bind ?_ (fun _ => ?_)
set_option maxHeartbeats 8000000 in
set_option maxRecDepth 100000 in
theorem bazaarlaw11_MoneyBack.calls (k : Nat) (A0 : Option Addr) (c0 : Nat) (l0 : List Int) (a1 : ByteArray) (r : Bool) (w : World) (hL : Laid w) (hr0 : Kd.C (Kd.int .i64) w A0 l0.length l0) (hc0 : l0.length ≤ c0) (h : bazaarlaw11_MoneyBack.f k l0 a1 = some r) :
    Calls Tryd.prog 9 #[.slice A0 l0.length c0, .string a1] w fun e w' => e = .returned (.bool r) ∧ Below w.heap.size w w' := by
  have HLD := Aside0.mk hL
  clear hL
  have HR0 := Aside0.mk hr0
  have HC0 := Aside0.mk hc0
  clear hr0 hc0
  have HB := Aside0.mk (Below.refl w.heap.size w)
  have H : ((bazaarlaw11_shown.f).bind fun t145 => (if 0 ≤ (mn (l0.length : Int) 30) then (if (mn (l0.length : Int) 30) ≤ (l0.length : Int) then (if 0 ≤ (mn (a1.size : Int) 200) then (if (mn (a1.size : Int) 200) ≤ (a1.size : Int) then ((money_Bytes.f k (l0.take ((mn (l0.length : Int) 30) : Int).toNat)).bind fun bt147 => ((money_Parse.f bt147.1).bind fun bt149 => (if bt147.2 = 0 then (if bt149.2 = 0 then ((bazaarref11_Same.f k (l0.take ((mn (l0.length : Int) 30) : Int).toNat) bt149.1).bind fun t153 => (bazaarlaw11_MoneyBack.j0 k (a1.extract 0 ((mn (a1.size : Int) 200) : Int).toNat) t145 (!t153))) else (bazaarlaw11_MoneyBack.j0 k (a1.extract 0 ((mn (a1.size : Int) 200) : Int).toNat) t145 true)) else (bazaarlaw11_MoneyBack.j0 k (a1.extract 0 ((mn (a1.size : Int) 200) : Int).toNat) t145 false)))) else (none)) else (none)) else (none)) else (none))) = some r := h
  clear h
  replace H := Option.bind_eq_some_iff.mp H
  obtain ⟨t145, A30, H⟩ := H
  replace H : (if 0 ≤ (mn (l0.length : Int) 30) then (if (mn (l0.length : Int) 30) ≤ (l0.length : Int) then (if 0 ≤ (mn (a1.size : Int) 200) then (if (mn (a1.size : Int) 200) ≤ (a1.size : Int) then ((money_Bytes.f k (l0.take ((mn (l0.length : Int) 30) : Int).toNat)).bind fun bt147 => ((money_Parse.f bt147.1).bind fun bt149 => (if bt147.2 = 0 then (if bt149.2 = 0 then ((bazaarref11_Same.f k (l0.take ((mn (l0.length : Int) 30) : Int).toNat) bt149.1).bind fun t153 => (bazaarlaw11_MoneyBack.j0 k (a1.extract 0 ((mn (a1.size : Int) 200) : Int).toNat) t145 (!t153))) else (bazaarlaw11_MoneyBack.j0 k (a1.extract 0 ((mn (a1.size : Int) 200) : Int).toNat) t145 true)) else (bazaarlaw11_MoneyBack.j0 k (a1.extract 0 ((mn (a1.size : Int) 200) : Int).toNat) t145 false)))) else (none)) else (none)) else (none)) else (none)) = some r := H
  have A3 := Aside0.mk A30
  clear A30
  obtain ⟨ji4, hji4⟩ : ∃ j_ : Int, (mn (l0.length : Int) 30) = j_ := ⟨_, rfl⟩
  replace H : (if 0 ≤ (ji4) then (if (ji4) ≤ (l0.length : Int) then (if 0 ≤ (mn (a1.size : Int) 200) then (if (mn (a1.size : Int) 200) ≤ (a1.size : Int) then ((money_Bytes.f k (l0.take ((ji4) : Int).toNat)).bind fun bt147 => ((money_Parse.f bt147.1).bind fun bt149 => (if bt147.2 = 0 then (if bt149.2 = 0 then ((bazaarref11_Same.f k (l0.take ((ji4) : Int).toNat) bt149.1).bind fun t153 => (bazaarlaw11_MoneyBack.j0 k (a1.extract 0 ((mn (a1.size : Int) 200) : Int).toNat) t145 (!t153))) else (bazaarlaw11_MoneyBack.j0 k (a1.extract 0 ((mn (a1.size : Int) 200) : Int).toNat) t145 true)) else (bazaarlaw11_MoneyBack.j0 k (a1.extract 0 ((mn (a1.size : Int) 200) : Int).toNat) t145 false)))) else (none)) else (none)) else (none)) else (none)) = some r := by first | (rw [hji4] at H; exact H) | (simp only [hji4] at H ⊢; exact H)
  (try rw [hji4] at A3)
  (try (have hji4h : ji4 ≤ 30 := by (rw [← hji4]; unfold mn; (repeat' split) <;> omega)))
  (try (have hji4g : ji4 ≤ 64 := by omega))
  (try (have hji4l : 0 ≤ ji4 := by (rw [← hji4]; unfold mn; (repeat' split) <;> omega)))
  (try (have hji4m : 0 ≤ ji4 := by omega))
  have hji4_ : (if 30 < (l0.length : Int) then 30 else (l0.length : Int)) = ji4 := hji4
  by_cases c5 : 0 ≤ (ji4)
  · rw [if_pos c5] at H
    have c5b0 := eq_true c5
    have c5b1 : decide (0 ≤ (ji4)) = true := decide_eq_true c5
    clear c5
    by_cases c6 : (ji4) ≤ (l0.length : Int)
    · rw [if_pos c6] at H
      have c6b0 := eq_true c6
      have c6b1 : decide ((ji4) ≤ (l0.length : Int)) = true := decide_eq_true c6
      clear c6
      obtain ⟨ji7, hji7⟩ : ∃ j_ : Int, (mn (a1.size : Int) 200) = j_ := ⟨_, rfl⟩
      replace H : (if 0 ≤ (ji7) then (if (ji7) ≤ (a1.size : Int) then ((money_Bytes.f k (l0.take ((ji4) : Int).toNat)).bind fun bt147 => ((money_Parse.f bt147.1).bind fun bt149 => (if bt147.2 = 0 then (if bt149.2 = 0 then ((bazaarref11_Same.f k (l0.take ((ji4) : Int).toNat) bt149.1).bind fun t153 => (bazaarlaw11_MoneyBack.j0 k (a1.extract 0 ((ji7) : Int).toNat) t145 (!t153))) else (bazaarlaw11_MoneyBack.j0 k (a1.extract 0 ((ji7) : Int).toNat) t145 true)) else (bazaarlaw11_MoneyBack.j0 k (a1.extract 0 ((ji7) : Int).toNat) t145 false)))) else (none)) else (none)) = some r := by first | (rw [hji7] at H; exact H) | (simp only [hji7] at H ⊢; exact H)
      (try rw [hji7] at A3)
      (try (have hji7h : ji7 ≤ 200 := by (rw [← hji7]; unfold mn; (repeat' split) <;> omega)))
      (try (have hji7g : ji7 ≤ 64 := by omega))
      (try (have hji7l : 0 ≤ ji7 := by (rw [← hji7]; unfold mn; (repeat' split) <;> omega)))
      (try (have hji7m : 0 ≤ ji7 := by omega))
      have hji7_ : (if 200 < (a1.size : Int) then 200 else (a1.size : Int)) = ji7 := hji7
      by_cases c8 : 0 ≤ (ji7)
      · rw [if_pos c8] at H
        have c8b0 := eq_true c8
        have c8b1 : decide (0 ≤ (ji7)) = true := decide_eq_true c8
        clear c8
        by_cases c9 : (ji7) ≤ (a1.size : Int)
        · rw [if_pos c9] at H
          have c9b0 := eq_true c9
          have c9b1 : decide ((ji7) ≤ (a1.size : Int)) = true := decide_eq_true c9
          clear c9
          replace H := Option.bind_eq_some_iff.mp H
          obtain ⟨⟨t147, t148⟩, A100, H⟩ := H
          replace H : ((money_Parse.f t147).bind fun bt149 => (if t148 = 0 then (if bt149.2 = 0 then ((bazaarref11_Same.f k (l0.take ((ji4) : Int).toNat) bt149.1).bind fun t153 => (bazaarlaw11_MoneyBack.j0 k (a1.extract 0 ((ji7) : Int).toNat) t145 (!t153))) else (bazaarlaw11_MoneyBack.j0 k (a1.extract 0 ((ji7) : Int).toNat) t145 true)) else (bazaarlaw11_MoneyBack.j0 k (a1.extract 0 ((ji7) : Int).toNat) t145 false))) = some r := H
          have A10 := Aside0.mk A100
          clear A100
          replace H := Option.bind_eq_some_iff.mp H
          obtain ⟨⟨t149, t150⟩, A110, H⟩ := H
          replace H : (if t148 = 0 then (if t150 = 0 then ((bazaarref11_Same.f k (l0.take ((ji4) : Int).toNat) t149).bind fun t153 => (bazaarlaw11_MoneyBack.j0 k (a1.extract 0 ((ji7) : Int).toNat) t145 (!t153))) else (bazaarlaw11_MoneyBack.j0 k (a1.extract 0 ((ji7) : Int).toNat) t145 true)) else (bazaarlaw11_MoneyBack.j0 k (a1.extract 0 ((ji7) : Int).toNat) t145 false)) = some r := H
          have A11 := Aside0.mk A110
          clear A110
          have HC12 := Aside0.mk H
          clear H
          go_enter Tryd.func9, Tryd.ntmps9
          go_upto_region 6 with (first | ((with_reducible refine gate_callee (f := 10) rfl ?_); refine goesL_ (some 14) rfl rfl Tryd.func10 (by kernel_rfl) rfl #[] rfl (by (try simp only [List.map_toArray, List.map_cons, List.map_nil]); first | done | rfl | (simp only [List.length_drop, List.length_take]; rfl)) ?_; (with_reducible refine (bazaarlaw11_shown.calls  t145 _ ?side1 A3.out).mono ?_); (case side1 => exact Laid_below HLD.out (by repeat (first | (with_reducible first | exact HB.out | apply below_alloc | apply pw_below_drewN | apply below_drew1) | exact HB.out))); rintro e w13 ⟨rfl, hb⟩; refine ⟨_, rfl, ?_⟩; have n0_ := Aside0.mk (below_step (by repeat (first | (with_reducible first | exact HB.out | apply below_alloc | apply pw_below_drewN | apply below_drew1) | exact HB.out)) hb); clear HB; have HB := n0_; clear n0_; (try clear hb); (try clear hb2); (try clear hk); (try clear hi); obtain ⟨i014, hi014, _, hsz14, _⟩ := info_parts info2; obtain ⟨hcut14, hA14, hC14⟩ := print_take_of (P := Tryd.prog) (Value.int .i64) 0 31 2 .i64 Tryd.underlying31 hi014 hsz14 A0 c0 l0 (ji4) (of_decide_eq_true (by first | (with_reducible assumption) | assumption)) (of_decide_eq_true (by first | (with_reducible assumption) | assumption)) HC0.out; have HR146 := Aside0.mk (Kd.C_of_reads (h1 := fun _ => rfl) (hA14 _ (Kd.reads_of_C HR0.out))); have HC146 := Aside0.mk hC14; clear hA14 hC14 hi014 hsz14) | ((with_reducible refine gate_callee (f := 21) rfl ?_); refine goesL_ (some 27) rfl rfl Tryd.func21 (by kernel_rfl) rfl #[.slice A0 (l0.take ((ji4) : Int).toNat).length c0] rfl (by (try simp only [List.map_toArray, List.map_cons, List.map_nil]); first | done | (rw [show (l0.take ((ji4) : Int).toNat).length = (ji4).toNat from (by rw [List.length_take]; have h_ : ((ji4) : Int) ≤ (l0.length : Int) := of_decide_eq_true (by first | (with_reducible assumption) | assumption); omega)] <;> rfl) | (simp only [hji4]; rfl) | rfl | (simp only [List.length_drop, List.length_take]; rfl)) ?_; (with_reducible refine (money_Bytes.calls k _ _ (l0.take ((ji4) : Int).toNat) t147 t148 _ ?side1 ?side2 ?side3 A10.out).mono ?_); (case side1 => exact Laid_below HLD.out (by repeat (first | (with_reducible first | exact HB.out | apply below_alloc | apply pw_below_drewN | apply below_drew1) | exact HB.out))); (case side2 => repeat (first | exact (Kd.C_below HR146.out HB.out) | (with_reducible refine Kd.C_alloc ?_ _) | (with_reducible refine Kd.C_drewN ?_ _) | (with_reducible refine Kd.C_drew ?_))); (case side3 => exact HC146.out); rintro e w15 ⟨rfl, hb⟩; refine ⟨_, rfl, ?_⟩; have n0_ := Aside0.mk (below_step (by repeat (first | (with_reducible first | exact HB.out | apply below_alloc | apply pw_below_drewN | apply below_drew1) | exact HB.out)) hb); clear HB; have HB := n0_; clear n0_; (try clear hb); (try clear hb2); (try clear hk); (try clear hi)) | ((with_reducible refine gate_callee (f := 23) rfl ?_); refine goesL_ (some 32) rfl rfl Tryd.func23 (by kernel_rfl) rfl #[.string t147] rfl (by (try simp only [List.map_toArray, List.map_cons, List.map_nil]); first | done | rfl | (simp only [List.length_drop, List.length_take]; rfl)) ?_; (with_reducible refine (money_Parse.calls t147 t149 t150 _ ?side1 A11.out).mono ?_); (case side1 => exact Laid_below HLD.out (by repeat (first | (with_reducible first | exact HB.out | apply below_alloc | apply pw_below_drewN | apply below_drew1) | exact HB.out))); rintro e w16 ⟨v151, rfl, ho0, hb⟩; refine ⟨_, rfl, ?_⟩; have n0_ := Aside0.mk (Kd.R_lower ho0 (below_size (by repeat (first | (with_reducible first | exact HB.out | apply below_alloc | apply pw_below_drewN | apply below_drew1) | exact HB.out)))); have n1_ := Aside0.mk (below_step (by repeat (first | (with_reducible first | exact HB.out | apply below_alloc | apply pw_below_drewN | apply below_drew1) | exact HB.out)) hb); clear HB; have HO152 := n0_; have HB := n1_; clear n0_ n1_; (try clear hb); (try clear hb2); (try clear hk); (try clear hi); (try clear ho0)))
          (try simp only [Act.put, List.setIfInBounds_toArray, List.set_cons_zero, List.set_cons_succ])
          go_cut [46] (fun v46 wc => ∃ (kq : Nat) (x46_11 : Bool), v46 = .bool x46_11 ∧ Aside0 (bazaarlaw11_MoneyBack.j0 kq (a1.extract 0 ((ji7) : Int).toNat) t145 x46_11 = some r) ∧ Aside0 (kq ≤ k) ∧ Aside0 (Below w.heap.size w wc))
          case first =>
            have H := HC12.out
            clear HC12
            by_cases c17 : t148 = 0
            · rw [if_pos c17] at H
              have c17b0 : (t148 == 0) = true := beq_iff_eq.mpr c17
              have c17b1 : (t148 != 0) = false := bne_eq_false_iff_eq.mpr c17
              clear c17
              (first | rw [c17b0] | (simp only [i64_w, i32_w]; rw [c17b0]) | skip)
              by_cases c18 : t150 = 0
              · rw [if_pos c18] at H
                have c18b0 : (t150 == 0) = true := beq_iff_eq.mpr c18
                have c18b1 : (t150 != 0) = false := bne_eq_false_iff_eq.mpr c18
                clear c18
                replace H := Option.bind_eq_some_iff.mp H
                obtain ⟨t153, A190, H⟩ := H
                replace H : (bazaarlaw11_MoneyBack.j0 k (a1.extract 0 ((ji7) : Int).toNat) t145 (!t153)) = some r := H
                have A19 := Aside0.mk A190
                clear A190
                have H' := Aside0.mk H
                clear H
                obtain ⟨Ao20, co20, eo20⟩ := Kd.R_slice HO152.out
                subst eo20
                go_wp2_with (first | (go_at_call 25; refine calls_of_args (args' := #[.slice A0 (l0.take ((ji4) : Int).toNat).length c0, .slice Ao20 t149.length co20]) (by rw [show (l0.take ((ji4) : Int).toNat).length = ((ji4) : Int).toNat from by rw [List.length_take]; omega]) ?_; (with_reducible refine (bazaarref11_Same.calls k _ _ (l0.take ((ji4) : Int).toNat) _ _ t149 t153 _ ?side1 ?side2 ?side3 ?side4 ?side5 A19.out).mono ?_); (case side1 => exact Laid_below HLD.out (by repeat (first | (with_reducible first | exact HB.out | apply below_alloc | apply pw_below_drewN | apply below_drew1) | exact HB.out))); (case side2 => repeat (first | exact (Kd.C_below HR146.out HB.out) | (with_reducible refine Kd.C_alloc ?_ _) | (with_reducible refine Kd.C_drewN ?_ _) | (with_reducible refine Kd.C_drew ?_))); (case side3 => exact HC146.out); (case side4 => repeat (first | exact (Kd.R_reads' HO152.out).2.2 | (with_reducible refine Kd.C_alloc ?_ _) | (with_reducible refine Kd.C_drewN ?_ _) | (with_reducible refine Kd.C_drew ?_))); (case side5 => exact (Kd.R_reads' HO152.out).2.1); rintro e w21 ⟨rfl, hb⟩; have n0_ := Aside0.mk (Kd.R_below (by (with_reducible repeat (first | apply Kd.R_alloc | apply Kd.R_drewN | apply Kd.R_drew)); exact HO152.out) hb); have n1_ := Aside0.mk (below_step (by repeat (first | (with_reducible first | exact HB.out | apply below_alloc | apply pw_below_drewN | apply below_drew1) | exact HB.out)) hb); clear HO152; clear HB; have HO152 := n0_; have HB := n1_; clear n0_ n1_; (try clear hb); (try clear hb2); (try clear hk); (try clear hi)))
                go_meet
                case rel => exact ⟨_, (!t153), (by first | rfl | (simp; done) | (simp [*]; done)), H', ⟨by first | omega | exact Nat.le_refl _⟩, ⟨by repeat (first | (with_reducible first | exact HB.out | apply below_alloc | apply pw_below_drewN | apply below_drew1) | exact HB.out)⟩⟩
              · rw [if_neg c18] at H
                have c18b0 : (t150 == 0) = false := beq_eq_false_iff_ne.mpr c18
                have c18b1 : (t150 != 0) = true := bne_iff_ne.mpr c18
                have H' := Aside0.mk H
                clear H
                go_wp2
                go_meet
                case rel => exact ⟨_, (true), (by first | rfl | (simp; done) | (simp [*]; done)), H', ⟨by first | omega | exact Nat.le_refl _⟩, ⟨by repeat (first | (with_reducible first | exact HB.out | apply below_alloc | apply pw_below_drewN | apply below_drew1) | exact HB.out)⟩⟩
            · rw [if_neg c17] at H
              have c17b0 : (t148 == 0) = false := beq_eq_false_iff_ne.mpr c17
              have c17b1 : (t148 != 0) = true := bne_iff_ne.mpr c17
              (first | rw [c17b0] | (simp only [i64_w, i32_w]; rw [c17b0]) | skip)
              have H' := Aside0.mk H
              clear H
              go_wp2
              go_meet
              case rel => exact ⟨_, (false), (by first | rfl | (simp; done) | (simp [*]; done)), H', ⟨by first | omega | exact Nat.le_refl _⟩, ⟨by repeat (first | (with_reducible first | exact HB.out | apply below_alloc | apply pw_below_drewN | apply below_drew1) | exact HB.out)⟩⟩
          case rest =>
            clear HC12
            try clear c1
            try clear c2
            try clear p2
            try clear c5
            try clear c5b0
            try clear c5b1
            try clear c6
            try clear c6b0
            try clear c6b1
            try clear c8
            try clear c8b0
            try clear c8b1
            try clear c9
            try clear c9b0
            try clear c9b1
            try clear c10
            try clear c17
            try clear c17b0
            try clear c17b1
            try clear c18
            try clear c18b0
            try clear c18b1
            try clear c21
            obtain ⟨kq, x46_11, rfl, HA, HJ11, HB⟩ := hcut
            cases kq with
            | zero => exact absurd HA.out (by simp [bazaarlaw11_MoneyBack.j0])
            | succ kj11 =>
              have H := HA.out
              clear HA
              simp only [bazaarlaw11_MoneyBack.j0] at H
              by_cases c22 : x46_11 = true
              · subst c22
                have H1 : (some false) = some r := by rw [if_pos rfl] at H; exact H
                clear H
                have H := H1
                clear H1
                obtain rfl := Option.some.inj H
                go_wp2
                go_ret
                exact ⟨by first | rfl | (simp [errW_none, errW_some] <;> rfl) | (simp only [← hji4, ← hji7]; first | rfl | (simp [errW_none, errW_some] <;> rfl)) | (simp [*, errW_none, errW_some] <;> rfl), by repeat (first | (with_reducible first | exact HB.out | apply below_alloc | apply pw_below_drewN | apply below_drew1) | exact HB.out)⟩
              · replace c22 := Bool.eq_false_iff.mpr c22
                subst c22
                have H1 : ((money_Parse.f (a1.extract 0 ((ji7) : Int).toNat)).bind fun bt154 => ((money_Bytes.f kj11 bt154.1).bind fun bt158 => (if t145 = true then (if bt154.2 = 0 then (if bt158.2 = 0 then (some (bt158.1.toList == (a1.extract 0 ((ji7) : Int).toNat).toList)) else (some false)) else (some true)) else (some false)))) = some r := by rw [if_neg (show ¬ (false = true) by decide)] at H; exact H
                clear H
                have H := H1
                clear H1
                replace H := Option.bind_eq_some_iff.mp H
                obtain ⟨⟨t154, t155⟩, A230, H⟩ := H
                replace H : ((money_Bytes.f kj11 t154).bind fun bt158 => (if t145 = true then (if t155 = 0 then (if bt158.2 = 0 then (some (bt158.1.toList == (a1.extract 0 ((ji7) : Int).toNat).toList)) else (some false)) else (some true)) else (some false))) = some r := H
                have A23 := Aside0.mk A230
                clear A230
                replace H := Option.bind_eq_some_iff.mp H
                obtain ⟨⟨t158, t159⟩, A240, H⟩ := H
                replace H : (if t145 = true then (if t155 = 0 then (if t159 = 0 then (some (t158.toList == (a1.extract 0 ((ji7) : Int).toNat).toList)) else (some false)) else (some true)) else (some false)) = some r := H
                have A24 := Aside0.mk A240
                clear A240
                by_cases c25 : t145 = true
                · subst c25
                  have H1 : (if t155 = 0 then (if t159 = 0 then (some (t158.toList == (a1.extract 0 ((ji7) : Int).toNat).toList)) else (some false)) else (some true)) = some r := by rw [if_pos rfl] at H; exact H
                  clear H
                  have H := H1
                  clear H1
                  by_cases c26 : t155 = 0
                  · rw [if_pos c26] at H
                    have c26b0 : (t155 == 0) = true := beq_iff_eq.mpr c26
                    have c26b1 : (t155 != 0) = false := bne_eq_false_iff_eq.mpr c26
                    clear c26
                    by_cases c27 : t159 = 0
                    · rw [if_pos c27] at H
                      have c27b0 : (t159 == 0) = true := beq_iff_eq.mpr c27
                      have c27b1 : (t159 != 0) = false := bne_eq_false_iff_eq.mpr c27
                      clear c27
                      obtain rfl := Option.some.inj H
                      go_wp2_with (first | ((with_reducible refine gate_callee (f := 23) rfl ?_); refine goesL_ (some 49) rfl rfl Tryd.func23 (by kernel_rfl) rfl #[.string (a1.extract 0 ((ji7) : Int).toNat)] rfl (by (try simp only [List.map_toArray, List.map_cons, List.map_nil]); first | done | (simp only [hji7]; rfl) | rfl | (simp only [List.length_drop, List.length_take]; rfl)) ?_; (with_reducible refine (money_Parse.calls (a1.extract 0 ((ji7) : Int).toNat) t154 t155 _ ?side1 A23.out).mono ?_); (case side1 => exact Laid_below HLD.out (by repeat (first | (with_reducible first | exact HB.out | apply below_alloc | apply pw_below_drewN | apply below_drew1) | exact HB.out))); rintro e w28 ⟨v156, rfl, ho0, hb⟩; refine ⟨_, rfl, ?_⟩; have n0_ := Aside0.mk (Kd.R_lower ho0 (below_size (by repeat (first | (with_reducible first | exact HB.out | apply below_alloc | apply pw_below_drewN | apply below_drew1) | exact HB.out)))); have n1_ := Aside0.mk (below_step (by repeat (first | (with_reducible first | exact HB.out | apply below_alloc | apply pw_below_drewN | apply below_drew1) | exact HB.out)) hb); clear HB; have HO157 := n0_; have HB := n1_; clear n0_ n1_; (try clear hb); (try clear hb2); (try clear hk); (try clear hi); (try clear ho0); obtain ⟨Ao29, co29, eo29⟩ := Kd.R_slice HO157.out; subst eo29) | ((with_reducible refine gate_callee (f := 21) rfl ?_); refine goesL_ (some 54) rfl rfl Tryd.func21 (by kernel_rfl) rfl #[.slice Ao29 t154.length co29] rfl (by (try simp only [List.map_toArray, List.map_cons, List.map_nil]); first | done | rfl | (simp only [List.length_drop, List.length_take]; rfl)) ?_; (with_reducible refine (money_Bytes.calls kj11 _ _ t154 t158 t159 _ ?side1 ?side2 ?side3 A24.out).mono ?_); (case side1 => exact Laid_below HLD.out (by repeat (first | (with_reducible first | exact HB.out | apply below_alloc | apply pw_below_drewN | apply below_drew1) | exact HB.out))); (case side2 => repeat (first | exact (Kd.R_reads' HO157.out).2.2 | (with_reducible refine Kd.C_alloc ?_ _) | (with_reducible refine Kd.C_drewN ?_ _) | (with_reducible refine Kd.C_drew ?_))); (case side3 => exact (Kd.R_reads' HO157.out).2.1); rintro e w30 ⟨rfl, hb⟩; refine ⟨_, rfl, ?_⟩; have n0_ := Aside0.mk (Kd.R_below (by (with_reducible repeat (first | apply Kd.R_alloc | apply Kd.R_drewN | apply Kd.R_drew)); exact HO157.out) hb); have n1_ := Aside0.mk (below_step (by repeat (first | (with_reducible first | exact HB.out | apply below_alloc | apply pw_below_drewN | apply below_drew1) | exact HB.out)) hb); clear HO157; clear HB; have HO157 := n0_; have HB := n1_; clear n0_ n1_; (try clear hb); (try clear hb2); (try clear hk); (try clear hi)))
                      go_ret
                      exact ⟨by first | rfl | (simp [errW_none, errW_some] <;> rfl) | (simp only [← hji4, ← hji7]; first | rfl | (simp [errW_none, errW_some] <;> rfl)) | (simp [*, errW_none, errW_some] <;> rfl), by repeat (first | (with_reducible first | exact HB.out | apply below_alloc | apply pw_below_drewN | apply below_drew1) | exact HB.out)⟩
                    · rw [if_neg c27] at H
                      have c27b0 : (t159 == 0) = false := beq_eq_false_iff_ne.mpr c27
                      have c27b1 : (t159 != 0) = true := bne_iff_ne.mpr c27
                      obtain rfl := Option.some.inj H
                      go_wp2_with (first | ((with_reducible refine gate_callee (f := 23) rfl ?_); refine goesL_ (some 49) rfl rfl Tryd.func23 (by kernel_rfl) rfl #[.string (a1.extract 0 ((ji7) : Int).toNat)] rfl (by (try simp only [List.map_toArray, List.map_cons, List.map_nil]); first | done | (simp only [hji7]; rfl) | rfl | (simp only [List.length_drop, List.length_take]; rfl)) ?_; (with_reducible refine (money_Parse.calls (a1.extract 0 ((ji7) : Int).toNat) t154 t155 _ ?side1 A23.out).mono ?_); (case side1 => exact Laid_below HLD.out (by repeat (first | (with_reducible first | exact HB.out | apply below_alloc | apply pw_below_drewN | apply below_drew1) | exact HB.out))); rintro e w31 ⟨v156, rfl, ho0, hb⟩; refine ⟨_, rfl, ?_⟩; have n0_ := Aside0.mk (Kd.R_lower ho0 (below_size (by repeat (first | (with_reducible first | exact HB.out | apply below_alloc | apply pw_below_drewN | apply below_drew1) | exact HB.out)))); have n1_ := Aside0.mk (below_step (by repeat (first | (with_reducible first | exact HB.out | apply below_alloc | apply pw_below_drewN | apply below_drew1) | exact HB.out)) hb); clear HB; have HO157 := n0_; have HB := n1_; clear n0_ n1_; (try clear hb); (try clear hb2); (try clear hk); (try clear hi); (try clear ho0); obtain ⟨Ao32, co32, eo32⟩ := Kd.R_slice HO157.out; subst eo32) | ((with_reducible refine gate_callee (f := 21) rfl ?_); refine goesL_ (some 54) rfl rfl Tryd.func21 (by kernel_rfl) rfl #[.slice Ao32 t154.length co32] rfl (by (try simp only [List.map_toArray, List.map_cons, List.map_nil]); first | done | rfl | (simp only [List.length_drop, List.length_take]; rfl)) ?_; (with_reducible refine (money_Bytes.calls kj11 _ _ t154 t158 t159 _ ?side1 ?side2 ?side3 A24.out).mono ?_); (case side1 => exact Laid_below HLD.out (by repeat (first | (with_reducible first | exact HB.out | apply below_alloc | apply pw_below_drewN | apply below_drew1) | exact HB.out))); (case side2 => repeat (first | exact (Kd.R_reads' HO157.out).2.2 | (with_reducible refine Kd.C_alloc ?_ _) | (with_reducible refine Kd.C_drewN ?_ _) | (with_reducible refine Kd.C_drew ?_))); (case side3 => exact (Kd.R_reads' HO157.out).2.1); rintro e w33 ⟨rfl, hb⟩; refine ⟨_, rfl, ?_⟩; have n0_ := Aside0.mk (Kd.R_below (by (with_reducible repeat (first | apply Kd.R_alloc | apply Kd.R_drewN | apply Kd.R_drew)); exact HO157.out) hb); have n1_ := Aside0.mk (below_step (by repeat (first | (with_reducible first | exact HB.out | apply below_alloc | apply pw_below_drewN | apply below_drew1) | exact HB.out)) hb); clear HO157; clear HB; have HO157 := n0_; have HB := n1_; clear n0_ n1_; (try clear hb); (try clear hb2); (try clear hk); (try clear hi)))
                      go_ret
                      exact ⟨by first | rfl | (simp [errW_none, errW_some] <;> rfl) | (simp only [← hji4, ← hji7]; first | rfl | (simp [errW_none, errW_some] <;> rfl)) | (simp [*, errW_none, errW_some] <;> rfl), by repeat (first | (with_reducible first | exact HB.out | apply below_alloc | apply pw_below_drewN | apply below_drew1) | exact HB.out)⟩
                  · rw [if_neg c26] at H
                    have c26b0 : (t155 == 0) = false := beq_eq_false_iff_ne.mpr c26
                    have c26b1 : (t155 != 0) = true := bne_iff_ne.mpr c26
                    obtain rfl := Option.some.inj H
                    go_wp2_with (first | ((with_reducible refine gate_callee (f := 23) rfl ?_); refine goesL_ (some 49) rfl rfl Tryd.func23 (by kernel_rfl) rfl #[.string (a1.extract 0 ((ji7) : Int).toNat)] rfl (by (try simp only [List.map_toArray, List.map_cons, List.map_nil]); first | done | (simp only [hji7]; rfl) | rfl | (simp only [List.length_drop, List.length_take]; rfl)) ?_; (with_reducible refine (money_Parse.calls (a1.extract 0 ((ji7) : Int).toNat) t154 t155 _ ?side1 A23.out).mono ?_); (case side1 => exact Laid_below HLD.out (by repeat (first | (with_reducible first | exact HB.out | apply below_alloc | apply pw_below_drewN | apply below_drew1) | exact HB.out))); rintro e w34 ⟨v156, rfl, ho0, hb⟩; refine ⟨_, rfl, ?_⟩; have n0_ := Aside0.mk (Kd.R_lower ho0 (below_size (by repeat (first | (with_reducible first | exact HB.out | apply below_alloc | apply pw_below_drewN | apply below_drew1) | exact HB.out)))); have n1_ := Aside0.mk (below_step (by repeat (first | (with_reducible first | exact HB.out | apply below_alloc | apply pw_below_drewN | apply below_drew1) | exact HB.out)) hb); clear HB; have HO157 := n0_; have HB := n1_; clear n0_ n1_; (try clear hb); (try clear hb2); (try clear hk); (try clear hi); (try clear ho0); obtain ⟨Ao35, co35, eo35⟩ := Kd.R_slice HO157.out; subst eo35) | ((with_reducible refine gate_callee (f := 21) rfl ?_); refine goesL_ (some 54) rfl rfl Tryd.func21 (by kernel_rfl) rfl #[.slice Ao35 t154.length co35] rfl (by (try simp only [List.map_toArray, List.map_cons, List.map_nil]); first | done | rfl | (simp only [List.length_drop, List.length_take]; rfl)) ?_; (with_reducible refine (money_Bytes.calls kj11 _ _ t154 t158 t159 _ ?side1 ?side2 ?side3 A24.out).mono ?_); (case side1 => exact Laid_below HLD.out (by repeat (first | (with_reducible first | exact HB.out | apply below_alloc | apply pw_below_drewN | apply below_drew1) | exact HB.out))); (case side2 => repeat (first | exact (Kd.R_reads' HO157.out).2.2 | (with_reducible refine Kd.C_alloc ?_ _) | (with_reducible refine Kd.C_drewN ?_ _) | (with_reducible refine Kd.C_drew ?_))); (case side3 => exact (Kd.R_reads' HO157.out).2.1); rintro e w36 ⟨rfl, hb⟩; refine ⟨_, rfl, ?_⟩; have n0_ := Aside0.mk (Kd.R_below (by (with_reducible repeat (first | apply Kd.R_alloc | apply Kd.R_drewN | apply Kd.R_drew)); exact HO157.out) hb); have n1_ := Aside0.mk (below_step (by repeat (first | (with_reducible first | exact HB.out | apply below_alloc | apply pw_below_drewN | apply below_drew1) | exact HB.out)) hb); clear HO157; clear HB; have HO157 := n0_; have HB := n1_; clear n0_ n1_; (try clear hb); (try clear hb2); (try clear hk); (try clear hi)))
                    go_ret
                    exact ⟨by first | rfl | (simp [errW_none, errW_some] <;> rfl) | (simp only [← hji4, ← hji7]; first | rfl | (simp [errW_none, errW_some] <;> rfl)) | (simp [*, errW_none, errW_some] <;> rfl), by repeat (first | (with_reducible first | exact HB.out | apply below_alloc | apply pw_below_drewN | apply below_drew1) | exact HB.out)⟩
                · replace c25 := Bool.eq_false_iff.mpr c25
                  subst c25
                  have H1 : (some false) = some r := by rw [if_neg (show ¬ (false = true) by decide)] at H; exact H
                  clear H
                  have H := H1
                  clear H1
                  obtain rfl := Option.some.inj H
                  go_wp2_with (first | ((with_reducible refine gate_callee (f := 23) rfl ?_); refine goesL_ (some 49) rfl rfl Tryd.func23 (by kernel_rfl) rfl #[.string (a1.extract 0 ((ji7) : Int).toNat)] rfl (by (try simp only [List.map_toArray, List.map_cons, List.map_nil]); first | done | (simp only [hji7]; rfl) | rfl | (simp only [List.length_drop, List.length_take]; rfl)) ?_; (with_reducible refine (money_Parse.calls (a1.extract 0 ((ji7) : Int).toNat) t154 t155 _ ?side1 A23.out).mono ?_); (case side1 => exact Laid_below HLD.out (by repeat (first | (with_reducible first | exact HB.out | apply below_alloc | apply pw_below_drewN | apply below_drew1) | exact HB.out))); rintro e w37 ⟨v156, rfl, ho0, hb⟩; refine ⟨_, rfl, ?_⟩; have n0_ := Aside0.mk (Kd.R_lower ho0 (below_size (by repeat (first | (with_reducible first | exact HB.out | apply below_alloc | apply pw_below_drewN | apply below_drew1) | exact HB.out)))); have n1_ := Aside0.mk (below_step (by repeat (first | (with_reducible first | exact HB.out | apply below_alloc | apply pw_below_drewN | apply below_drew1) | exact HB.out)) hb); clear HB; have HO157 := n0_; have HB := n1_; clear n0_ n1_; (try clear hb); (try clear hb2); (try clear hk); (try clear hi); (try clear ho0); obtain ⟨Ao38, co38, eo38⟩ := Kd.R_slice HO157.out; subst eo38) | ((with_reducible refine gate_callee (f := 21) rfl ?_); refine goesL_ (some 54) rfl rfl Tryd.func21 (by kernel_rfl) rfl #[.slice Ao38 t154.length co38] rfl (by (try simp only [List.map_toArray, List.map_cons, List.map_nil]); first | done | rfl | (simp only [List.length_drop, List.length_take]; rfl)) ?_; (with_reducible refine (money_Bytes.calls kj11 _ _ t154 t158 t159 _ ?side1 ?side2 ?side3 A24.out).mono ?_); (case side1 => exact Laid_below HLD.out (by repeat (first | (with_reducible first | exact HB.out | apply below_alloc | apply pw_below_drewN | apply below_drew1) | exact HB.out))); (case side2 => repeat (first | exact (Kd.R_reads' HO157.out).2.2 | (with_reducible refine Kd.C_alloc ?_ _) | (with_reducible refine Kd.C_drewN ?_ _) | (with_reducible refine Kd.C_drew ?_))); (case side3 => exact (Kd.R_reads' HO157.out).2.1); rintro e w39 ⟨rfl, hb⟩; refine ⟨_, rfl, ?_⟩; have n0_ := Aside0.mk (Kd.R_below (by (with_reducible repeat (first | apply Kd.R_alloc | apply Kd.R_drewN | apply Kd.R_drew)); exact HO157.out) hb); have n1_ := Aside0.mk (below_step (by repeat (first | (with_reducible first | exact HB.out | apply below_alloc | apply pw_below_drewN | apply below_drew1) | exact HB.out)) hb); clear HO157; clear HB; have HO157 := n0_; have HB := n1_; clear n0_ n1_; (try clear hb); (try clear hb2); (try clear hk); (try clear hi)))
                  go_ret
                  exact ⟨by first | rfl | (simp [errW_none, errW_some] <;> rfl) | (simp only [← hji4, ← hji7]; first | rfl | (simp [errW_none, errW_some] <;> rfl)) | (simp [*, errW_none, errW_some] <;> rfl), by repeat (first | (with_reducible first | exact HB.out | apply below_alloc | apply pw_below_drewN | apply below_drew1) | exact HB.out)⟩
        · rw [if_neg c9] at H
          exact absurd H (by simp)
      · rw [if_neg c8] at H
        exact absurd H (by simp)
    · rw [if_neg c6] at H
      exact absurd H (by simp)
  · rw [if_neg c5] at H
    exact absurd H (by simp)


end Go.Proofs.YtfncbcbhhddnpaaDoor.Q
