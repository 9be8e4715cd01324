-- Printed by a program of this session (a turned copy of the print); what it takes as given stands in the seat's own texts.
import Derived.Test.YtgnjodocggihoaaDoorKx0
import Derived.Test.YtgnjodocggihoaaDoorAAre
import Derived.Test.YtgnjodocggihoaaDoorMParse
namespace Go.Proofs.YtgnjodocggihoaaDoor.K
open Go.RowKit Go.Proofs.YtgnjodocggihoaaDoorW.PrintWords Go.Proofs.YtgnjodocggihoaaDoorW.PrintLast Go.Proofs.YtgnjodocggihoaaDoorW.PrintMore
attribute [local go_sem] max2_int min2_int max_two min_two max_three min_three max_four min_four   -- for this text's walks alone
set_option linter.unusedVariables false
set_option linter.unusedSimpArgs false

/-! ### accounts_Parse: function 31 -/
def accounts_Parse.j0 : Nat → List Int → Bool → Option (Int × Int × Int)
  | 0, _, _ => none
  | k + 1, x4, x18 => if x18 = true then (some (0, 0, 130)) else (if 0 < (x4.length : Int) then (if 1 < (x4.length : Int) then ((accounts_are.f (([(⟨rd x4 0, rd x4 1⟩ : S23)] : List (S23)))).bind fun t341 => (if t341 = true then (some (rd x4 0, rd x4 1, 0)) else (some (0, 0, 130)))) else (none)) else (none))
def accounts_Parse.f (k : Nat) (a0 : ByteArray) : Option (Int × Int × Int) := (money_Parse.f a0).bind fun bt331 => (if bt331.2 = 0 then (accounts_Parse.j0 k bt331.1 ((bt331.1.length : Int) != 2)) else (accounts_Parse.j0 k bt331.1 true))
theorem accounts_Parse.mono_l : ∀ k, (∀ y0 y1, LeO (accounts_Parse.j0 k y0 y1) (accounts_Parse.j0 (k + 1) y0 y1))
  | 0 => fun _ _ r h => by simp [accounts_Parse.j0] at h
  | k + 1 => by
    have ih0 := accounts_Parse.mono_l k
    · intro y0 y1
      unfold accounts_Parse.j0
      repeat' first
      | (with_reducible exact ih0 _ _)
      | (with_reducible exact LeO.refl _)
      | (with_reducible exact LeO.none _)
      | (with_reducible refine LeO.ite ?_ ?_)
      | (with_reducible refine LeO.bind ?_ (fun _ => ?_))
      | exact ih0 _ _
      | exact LeO.none _
      | refine LeO.ite ?_ ?_
      | refine LeO.bind ?_ (fun _ => ?_)
theorem accounts_Parse.mono : ∀ a0 k, LeO (accounts_Parse.f k a0) (accounts_Parse.f (k + 1) a0) := by
  intro a0 k
  have ih0 := accounts_Parse.mono_l k
  unfold accounts_Parse.f
  repeat' first
      | (with_reducible exact ih0 _ _)
      | (with_reducible exact LeO.refl _)
      | (with_reducible exact LeO.none _)
      | (with_reducible refine LeO.ite ?_ ?_)
      | (with_reducible refine LeO.bind ?_ (fun _ => ?_))
      | exact ih0 _ _
      | exact LeO.none _
      | refine LeO.ite ?_ ?_
      | refine LeO.bind ?_ (fun _ => ?_)
def accounts_Parse.T4 : Bool × List (List Nat × List Nat) := (true, [([], []), ([0], [0]), ([1], [1]), ([], []), ([3], [3]), ([4], [4]), ([2, 5], [2, 5]), ([], []), ([7, 6, 0, 1, 2, 3, 4, 5, 6, 7], [6, 7])])
def accounts_Parse.B4 : List Nat := [0, 1, 3, 0, 8, 24, 63, 0, 255]
theorem accounts_Parse.tab4 : rtab .any (opsOf Tryd.f31 4) = accounts_Parse.T4 := by kernel_rfl
theorem accounts_Parse.bits4 : waitsOk accounts_Parse.T4.2 accounts_Parse.B4 = true := by kernel_rfl
set_option maxHeartbeats 8000000 in
set_option maxRecDepth 100000 in
theorem accounts_Parse.calls (k : Nat) (a0 : ByteArray) (r1 : Int) (r2 : Int) (r3 : Int) (w : World) (hL : Laid w) (h : accounts_Parse.f k a0 = some (r1, r2, r3)) :
    Calls Tryd.prog 31 #[.string a0] w fun e w' => e = .returned (.tuple #[.agg #[.int .i64 r1, .int .i64 r2], .int .i64 r3]) ∧ Below w.heap.size w w' := by
  have hu23 := Tryd.underlying23
  have HLD := Aside0.mk hL
  clear hL
  have HB := Aside0.mk (Below.refl w.heap.size w)
  have H : ((money_Parse.f a0).bind fun bt331 => (if bt331.2 = 0 then (accounts_Parse.j0 k bt331.1 ((bt331.1.length : Int) != 2)) else (accounts_Parse.j0 k bt331.1 true))) = some (r1, r2, r3) := h
  clear h
  replace H := Option.bind_eq_some_iff.mp H
  obtain ⟨⟨t331, t332⟩, A20, H⟩ := H
  replace H : (if t332 = 0 then (accounts_Parse.j0 k t331 ((t331.length : Int) != 2)) else (accounts_Parse.j0 k t331 true)) = some (r1, r2, r3) := H
  have A2 := Aside0.mk A20
  clear A20
  have HC3 := Aside0.mk H
  clear H
  go_enter Tryd.func31, Tryd.ntmps31
  go_upto_region 2 with (first | ((with_reducible refine gate_dst (N := 2) rfl ?_); (try (refine gate_guard (by rfl) ?_; dsimp only)); refine box_event ?hg (N := 2) ?hd (cs := #[.int .i64 0, .int .i64 0]) (t := 23) ?hr ?_; (case hd => rfl); (case hg => rfl); (case hr => first | (go_simp; done) | (go_simp; rfl)); intro gb330 hg w4 hbox hb; have n0_ := Aside0.mk (below_step (by repeat (first | (with_reducible first | exact HB.out | apply below_alloc | apply pw_below_drewN | apply below_drew1) | exact HB.out)) hb); have n1_ := Aside0.mk (hbox); have n2_ := Aside0.mk ((by rw [hg]; exact (below_size (by repeat (first | (with_reducible first | exact HB.out | apply below_alloc | apply pw_below_drewN | apply below_drew1) | exact HB.out))) : w.heap.size ≤ gb330)); have n3_ := Aside0.mk ((by rw [hg]; exact (below_size (by repeat (first | (with_reducible first | exact HB.out | apply below_alloc | apply pw_below_drewN | apply below_drew1) | exact HB.out))) : w.heap.size ≤ gb330)); clear HB; have HB := n0_; have BK330 := n1_; have GW330 := n2_; have GE330 := n3_; clear n0_ n1_ n2_ n3_; clear hb hbox hg) | ((with_reducible refine gate_callee (f := 58) rfl ?_); refine goesL_ (some 9) rfl rfl Tryd.func58 (by kernel_rfl) rfl #[.string a0] rfl (by (try simp only [List.map_toArray, List.map_cons, List.map_nil]); first | done | rfl | (simp only [List.length_drop, List.length_take]; rfl)) ?_; (with_reducible refine (money_Parse.calls a0 t331 t332 _ ?side1 A2.out).mono ?_); (case side1 => exact Laid_below HLD.out (by repeat (first | (with_reducible first | exact HB.out | apply below_alloc | apply pw_below_drewN | apply below_drew1 | refine below_set ?_ GE330.out) | exact HB.out))); rintro e w5 ⟨v333, rfl, ho0, hb⟩; refine ⟨_, rfl, ?_⟩; have n0_ := Aside0.mk (Kd.R_lower ho0 (below_size (by repeat (first | (with_reducible first | exact HB.out | apply below_alloc | apply pw_below_drewN | apply below_drew1 | refine below_set ?_ GE330.out) | exact HB.out)))); have n1_ := Aside0.mk (blk_below (g := gb330) (o := .cells #[.int .i64 0, .int .i64 0] 23 (0, 0)) (by (with_reducible repeat (first | refine blk_drewN ?_ _ | refine blk_drew ?_ | refine blk_alloc ?_ _)); exact BK330.out) hb); have n2_ := Aside0.mk (below_step (by repeat (first | (with_reducible first | exact HB.out | apply below_alloc | apply pw_below_drewN | apply below_drew1 | refine below_set ?_ GE330.out) | exact HB.out)) hb); clear BK330; clear HB; have HO334 := n0_; have BK330 := n1_; have HB := n2_; clear n0_ n1_ n2_; (try clear hb); (try clear hb2); (try clear hk); (try clear hi); (try clear ho0)))
  (try simp only [Act.put, List.setIfInBounds_toArray, List.set_cons_zero, List.set_cons_succ])
  go_cut [18] (fun v18 wc => ∃ (kq : Nat) (x18_2 : Bool), v18 = .bool x18_2 ∧ Aside0 (accounts_Parse.j0 kq t331 x18_2 = some (r1, r2, r3)) ∧ Aside0 (kq ≤ k) ∧ Aside0 (Kd.R (Kd.int .i64) 2 wc w.heap.size (fun _ => True) v333 t331) ∧ Aside0 (wc.heap[gb330]? = some (.cells #[.int .i64 0, .int .i64 0] 23 (0, 0))) ∧ Aside0 (Below w.heap.size w wc))
  case first =>
    have H := HC3.out
    clear HC3
    by_cases c6 : t332 = 0
    · rw [if_pos c6] at H
      have c6b0 : (t332 == 0) = true := beq_iff_eq.mpr c6
      have c6b1 : (t332 != 0) = false := bne_eq_false_iff_eq.mpr c6
      clear c6
      (first | rw [c6b0] | (simp only [i64_w, i32_w]; rw [c6b0]) | skip)
      have H' := Aside0.mk H
      clear H
      obtain ⟨Ao7, co7, eo7⟩ := Kd.R_slice HO334.out
      subst eo7
      go_wp2
      go_meet
      case rel => exact ⟨_, (((t331.length : Int) != 2)), (by first | rfl | (simp; done) | (simp [*]; done)), H', ⟨by first | omega | exact Nat.le_refl _⟩, ⟨by (with_reducible repeat (first | apply Kd.R_alloc | apply Kd.R_drewN | apply Kd.R_drew)); exact HO334.out⟩, ⟨by (with_reducible repeat (first | refine blk_drewN ?_ _ | refine blk_drew ?_ | refine blk_alloc ?_ _)); exact BK330.out⟩, ⟨by repeat (first | (with_reducible first | exact HB.out | apply below_alloc | apply pw_below_drewN | apply below_drew1 | refine below_set ?_ GE330.out) | exact HB.out)⟩⟩
    · rw [if_neg c6] at H
      have c6b0 : (t332 == 0) = false := beq_eq_false_iff_ne.mpr c6
      have c6b1 : (t332 != 0) = true := bne_iff_ne.mpr c6
      (first | rw [c6b0] | (simp only [i64_w, i32_w]; rw [c6b0]) | skip)
      have H' := Aside0.mk H
      clear H
      go_wp2
      go_meet
      case rel => exact ⟨_, (true), (by first | rfl | (simp; done) | (simp [*]; done)), H', ⟨by first | omega | exact Nat.le_refl _⟩, ⟨by (with_reducible repeat (first | apply Kd.R_alloc | apply Kd.R_drewN | apply Kd.R_drew)); exact HO334.out⟩, ⟨by (with_reducible repeat (first | refine blk_drewN ?_ _ | refine blk_drew ?_ | refine blk_alloc ?_ _)); exact BK330.out⟩, ⟨by repeat (first | (with_reducible first | exact HB.out | apply below_alloc | apply pw_below_drewN | apply below_drew1 | refine below_set ?_ GE330.out) | exact HB.out)⟩⟩
  case rest =>
    clear HC3
    try clear p2
    try clear c3
    try clear c5
    try clear c6
    try clear c6b0
    try clear c6b1
    obtain ⟨kq, x18_2, rfl, HA, HJ2, HO_4, BK330, HB⟩ := hcut
    cases kq with
    | zero => exact absurd HA.out (by simp [accounts_Parse.j0])
    | succ kj2 =>
      have H := HA.out
      clear HA
      simp only [accounts_Parse.j0] at H
      by_cases c8 : x18_2 = true
      · subst c8
        have H1 : (some (0, 0, 130)) = some (r1, r2, r3) := by rw [if_pos rfl] at H; exact H
        clear H
        have H := H1
        clear H1
        simp only [Option.some.injEq, Prod.mk.injEq] at H
        obtain ⟨rfl, rfl, rfl⟩ := H
        have hcz9_0 : wc.cell? ⟨gb330, 0, none⟩ = some (.int .i64 0) := (blk_cell BK330.out 0).trans rfl
        have hcz9_1 : wc.cell? ⟨gb330, 1, none⟩ = some (.int .i64 0) := (blk_cell BK330.out 1).trans rfl
        have hfz9_0 := blk_frozen BK330.out 0
        have hfz9_1 := blk_frozen BK330.out 1
        go_wp2
        refine bodyPost_ret (results_ct rfl _ _ gb330 23 #[.int .i64 0, .int .i64 0] (0, 0) _ rfl (by (with_reducible repeat (first | refine blk_drewN ?_ _ | refine blk_drew ?_ | refine blk_alloc ?_ _)); refine blk_put (cs := #[.int .i64 0, .int .i64 0]) ?_ 1 _ rfl; (with_reducible repeat (first | refine blk_drewN ?_ _ | refine blk_drew ?_ | refine blk_alloc ?_ _)); refine blk_put (cs := #[.int .i64 0, .int .i64 0]) ?_ 0 _ rfl; (with_reducible repeat (first | refine blk_drewN ?_ _ | refine blk_drew ?_ | refine blk_alloc ?_ _)); exact BK330.out) Tryd.underlying23 rfl (by kernel_rfl)) rfl ?_
        exact ⟨by first | rfl | (simp [errW_none, errW_some] <;> rfl) | (simp [*, errW_none, errW_some] <;> rfl), by repeat (first | (with_reducible first | exact HB.out | apply below_alloc | apply pw_below_drewN | apply below_drew1 | refine below_set ?_ GE330.out) | exact HB.out)⟩
      · replace c8 := Bool.eq_false_iff.mpr c8
        subst c8
        have H1 : (if 0 < (t331.length : Int) then (if 1 < (t331.length : Int) then ((accounts_are.f (([(⟨rd t331 0, rd t331 1⟩ : S23)] : List (S23)))).bind fun t341 => (if t341 = true then (some (rd t331 0, rd t331 1, 0)) else (some (0, 0, 130)))) else (none)) else (none)) = some (r1, r2, r3) := by rw [if_neg (show ¬ (false = true) by decide)] at H; exact H
        clear H
        have H := H1
        clear H1
        by_cases c10 : 0 < (t331.length : Int)
        · rw [if_pos c10] at H
          have c10b0 : decide (0 < (t331.length : Int)) = true := decide_eq_true c10
          have c10b1 : decide (0 < t331.length) = true := decide_eq_true (by omega)
          clear c10
          by_cases c11 : 1 < (t331.length : Int)
          · rw [if_pos c11] at H
            have c11b0 : decide (1 < (t331.length : Int)) = true := decide_eq_true c11
            have c11b1 : decide (1 < t331.length) = true := decide_eq_true (by omega)
            clear c11
            obtain ⟨y338, hy338⟩ : ∃ y_ : List (S23), y_ = (([(⟨rd t331 0, rd t331 1⟩ : S23)] : List (S23))) := ⟨_, rfl⟩
            replace H : ((accounts_are.f y338).bind fun t341 => (if t341 = true then (some (rd t331 0, rd t331 1, 0)) else (some (0, 0, 130)))) = some (r1, r2, r3) := by first | (rw [hy338]; with_reducible exact H) | (have H2_ := (Option.bind_some _ _).symm.trans H; rw [hy338]; with_reducible exact H2_) | (have H2_ := (Option.bind_some _ _).symm.trans H; with_reducible exact H2_) | with_reducible exact H | (rw [hy338]; exact H) | exact H
            have Ny338 := Aside0.mk hy338
            clear hy338
            replace H := Option.bind_eq_some_iff.mp H
            obtain ⟨t341, A120, H⟩ := H
            replace H : (if t341 = true then (some (rd t331 0, rd t331 1, 0)) else (some (0, 0, 130))) = some (r1, r2, r3) := H
            have A12 := Aside0.mk A120
            clear A120
            by_cases c13 : t341 = true
            · subst c13
              have H1 : (some (rd t331 0, rd t331 1, 0)) = some (r1, r2, r3) := by rw [if_pos rfl] at H; exact H
              clear H
              have H := H1
              clear H1
              simp only [Option.some.injEq, Prod.mk.injEq] at H
              obtain ⟨rfl, rfl, rfl⟩ := H
              try go_wp2
              have n0_ := Aside0.mk (Kd.R_drew HO_4.out)
              have n1_ := Aside0.mk (blk_drew BK330.out)
              have n2_ := Aside0.mk (below_drew1 HB.out)
              clear HO_4
              clear BK330
              clear HB
              have HO_4 := n0_
              have BK330 := n1_
              have HB := n2_
              clear n0_ n1_ n2_
              obtain ⟨Ao15, co15, eo15⟩ := Kd.R_slice HO_4.out
              (first | subst eo15 | (injection eo15 with f1_ f2_ f3_; have f4_ := f1_.symm; have f5_ := f3_.symm; clear f1_ f2_ f3_; subst f4_; subst f5_))
              have p335 : 0 ≤ (0 : Int) := (by omega)
              have q335 : 0 < (t331.length : Int) := of_decide_eq_true (by first | (with_reducible assumption) | assumption)
              obtain ⟨ad335, e335, hx335_0⟩ := Kd.at_int (Kd.R_reads' HO_4.out).2.2 0 p335 q335
              cases e335
              have qi335 : (0 < t331.length) = True := eq_true (by omega)
              (try rw [show ((0 : Int)).toNat = 0 from rfl] at hx335_0)
              (try rw [Addr.add_zero'] at hx335_0)
              replace p335 := eq_true p335
              replace q335 := eq_true q335
              have p336 : 0 ≤ (1 : Int) := (by omega)
              have q336 : 1 < (t331.length : Int) := of_decide_eq_true (by first | (with_reducible assumption) | assumption)
              obtain ⟨ad336, e336, hx336_0⟩ := Kd.at_int (Kd.R_reads' HO_4.out).2.2 1 p336 q336
              obtain rfl : ad335 = ad336 := (by injection e336)
              (try simp only [show (1 : Int).toNat = 1 from rfl, Nat.reduceMul, Nat.reduceEqDiff, Go.Addr.add, ↓reduceIte] at hx336_0)
              have qi336 : (1 < t331.length) = True := eq_true (by omega)
              (try rw [show ((1 : Int)).toNat = 1 from rfl] at hx336_0)
              replace p336 := eq_true p336
              replace q336 := eq_true q336
              refine start_ (n := 9) (S := fun w' => w'.cell? ad335 = some (.int .i64 (rd t331 0)) ∧ w'.cell? ⟨ad335.block, ad335.off + 1, none⟩ = some (.int .i64 (rd t331 1))) (ds := []) #[false, false, false, false, false, false, false, false, false] (by kernel_rfl) rfl rfl ⟨hx335_0, hx336_0⟩ (fun hHeld => ?_); refine with_tabW accounts_Parse.tab4 accounts_Parse.bits4 (fun HT_ HW_ => ?_)
              generalize wc.drew = w14 at HO_4 BK330 HB hx335_0 hx336_0 hHeld ⊢
              refine pure_ (i := 0) (N := some 20) (v := ?_) (a' := ?_) #[true, false, false, false, false, false, false, false, false] rfl rfl (any_of HT_.out (by kernel_rfl)) (fun _ _ _ h => h) (Or.inl ⟨by rfl, ?_⟩) ?_ ?_
              rotate_left
              · intro w'
                go_simp
                with_reducible rfl
              rotate_left
              · simp only [Act.put, List.setIfInBounds_toArray, List.set_cons_zero, List.set_cons_succ, i64_w, i32_w]
                rfl
              refine pure_ (i := 1) (N := some 21) (v := ?_) (a' := ?_) #[true, true, false, false, false, false, false, false, false] rfl rfl (any_of HT_.out (by kernel_rfl)) (fun _ _ _ h => h) (Or.inl ⟨by rfl, ?_⟩) ?_ ?_
              rotate_left
              · intro w'
                go_simp
                with_reducible rfl
              rotate_left
              · simp only [Act.put, List.setIfInBounds_toArray, List.set_cons_zero, List.set_cons_succ, i64_w, i32_w]
                rfl
              refine pure_ (i := 3) (N := some 23) (v := ?_) (a' := ?_) #[true, true, false, true, false, false, false, false, false] rfl rfl (any_of HT_.out (by kernel_rfl)) (fun _ _ _ h => h) (Or.inl ⟨by rfl, ?_⟩) ?_ ?_
              rotate_left
              · intro w'
                go_simp
                with_reducible rfl
              rotate_left
              · simp only [Act.put, List.setIfInBounds_toArray, List.set_cons_zero, List.set_cons_succ, i64_w, i32_w]
                rfl
              refine pure_ (i := 4) (N := some 24) (v := ?_) (a' := ?_) #[true, true, false, true, true, false, false, false, false] rfl rfl (any_of HT_.out (by kernel_rfl)) (fun _ _ _ h => h) (Or.inl ⟨by rfl, ?_⟩) ?_ ?_
              rotate_left
              · intro w'
                go_simp
                with_reducible rfl
              rotate_left
              · simp only [Act.put, List.setIfInBounds_toArray, List.set_cons_zero, List.set_cons_succ, i64_w, i32_w]
                rfl
              refine take_ (i := 2) (N := some 22) (v := ?_) (a' := ?_) #[true, true, true, true, true, false, false, false, false] rfl rfl (take_ofW HT_.out HW_.out (by kernel_rfl)) (fun _ _ _ h => h) (Or.inl ⟨by rfl, ?_⟩) hHeld ?_ ?_
              rotate_left
              · rintro w' ⟨s0, s1⟩
                go_simp
                with_reducible rfl
              rotate_left
              · simp only [Act.put, List.setIfInBounds_toArray, List.set_cons_zero, List.set_cons_succ, i64_w, i32_w]
                rfl
              refine take_ (i := 5) (N := some 25) (v := ?_) (a' := ?_) #[true, true, true, true, true, true, false, false, false] rfl rfl (take_ofW HT_.out HW_.out (by kernel_rfl)) (fun _ _ _ h => h) (Or.inl ⟨by rfl, ?_⟩) hHeld ?_ ?_
              rotate_left
              · rintro w' ⟨s0, s1⟩
                go_simp
                with_reducible rfl
              rotate_left
              · simp only [Act.put, List.setIfInBounds_toArray, List.set_cons_zero, List.set_cons_succ, i64_w, i32_w]
                rfl
              refine pure_ (i := 6) (N := some 26) (v := ?_) (a' := ?_) #[true, true, true, true, true, true, true, false, false] rfl rfl (any_of HT_.out (by kernel_rfl)) (fun _ _ _ h => h) (Or.inl ⟨by rfl, ?_⟩) ?_ ?_
              rotate_left
              · intro w'
                go_simp
                with_reducible rfl
              rotate_left
              · simp only [Act.put, List.setIfInBounds_toArray, List.set_cons_zero, List.set_cons_succ, i64_w, i32_w]
                rfl
              refine one_ (i := 7) (N := some 6) #[true, true, true, true, true, true, true, true, false] rfl rfl (one_of HT_.out (by kernel_rfl)) (by decide) (fun K hK => ?_)
              refine box_step ?hg (N := 6) ?hd (cs := #[.int .i64 0, .int .i64 0]) (t := 23) ?hr ?_; (case hd => rfl); (case hg => rfl); (case hr => first | (go_simp; done) | (go_simp; rfl))
              intro gb337 hg w16 hbox hb
              have HS0_ := (hb.cell (World.block_lt_of_cell? _ _ (hHeld.1))).trans (hHeld.1)
              have HS1_ := (hb.cell (World.block_lt_of_cell? _ _ (hHeld.2))).trans (hHeld.2)
              have n0_ := Aside0.mk (Kd.R_below (by (with_reducible repeat (first | apply Kd.R_alloc | apply Kd.R_drewN | apply Kd.R_drew)); exact HO_4.out) hb)
              have n1_ := Aside0.mk (blk_below (g := gb330) (o := .cells #[.int .i64 0, .int .i64 0] 23 (0, 0)) (by (with_reducible repeat (first | refine blk_drewN ?_ _ | refine blk_drew ?_ | refine blk_alloc ?_ _)); exact BK330.out) hb)
              have n2_ := Aside0.mk (below_step (by repeat (first | (with_reducible first | exact HB.out | apply below_alloc | apply pw_below_drewN | apply below_drew1 | refine below_set ?_ GE330.out) | exact HB.out)) hb)
              have n3_ := Aside0.mk (hbox)
              have n4_ := Aside0.mk ((by rw [hg]; exact (below_size (by repeat (first | (with_reducible first | exact HB.out | apply below_alloc | apply pw_below_drewN | apply below_drew1 | refine below_set ?_ GE330.out) | exact HB.out))) : w.heap.size ≤ gb337))
              have n5_ := Aside0.mk ((by rw [hg]; exact (below_size (by repeat (first | (with_reducible first | exact HB.out | apply below_alloc | apply pw_below_drewN | apply below_drew1 | refine below_set ?_ GE330.out) | exact HB.out))) : w.heap.size ≤ gb337))
              have n6_ := Aside0.mk ((by rw [hg]; exact Nat.ne_of_lt (blk_lt (g := gb330) (o := .cells #[.int .i64 0, .int .i64 0] 23 (0, 0)) (by (with_reducible repeat (first | refine blk_drewN ?_ _ | refine blk_drew ?_ | refine blk_alloc ?_ _)); exact BK330.out)) : gb330 ≠ gb337))
              have n7_ := Aside0.mk ((by rw [hg]; exact Nat.ne_of_gt (blk_lt (g := gb330) (o := .cells #[.int .i64 0, .int .i64 0] 23 (0, 0)) (by (with_reducible repeat (first | refine blk_drewN ?_ _ | refine blk_drew ?_ | refine blk_alloc ?_ _)); exact BK330.out)) : gb337 ≠ gb330))
              clear HO_4
              clear BK330
              clear HB
              have HO_4 := n0_
              have BK330 := n1_
              have HB := n2_
              have BK337 := n3_
              have GW337 := n4_
              have GE337 := n5_
              have NB330_337 := n6_
              have NB337_330 := n7_
              clear n0_ n1_ n2_ n3_ n4_ n5_ n6_ n7_
              clear hb hbox hg
              refine hK.out _ _ ⟨HS0_, HS1_⟩ (fun hHeld => ?_)
              clear hK K
              refine norm_ (a' := ?_) ?_ ?_
              rotate_left
              · show Act.put _ (some 6) _ = _
                simp only [Act.put, List.setIfInBounds_toArray, List.set_cons_zero, List.set_cons_succ, i64_w, i32_w]
                rfl
              refine one_ (i := 8) (N := none) #[true, true, true, true, true, true, true, true, true] rfl rfl (one_of HT_.out (by kernel_rfl)) (by decide) (fun K hK => ?_)
              have hs17 : w16.cell? ⟨gb337, 0, none⟩ = some (.int .i64 0) := (blk_cell BK337.out 0).trans rfl
              have hfs17 := blk_frozen BK337.out 0
              have hns17_0 := NB330_337.out
              have hms17_0 := NB337_330.out
              have hs18 : w16.cell? ⟨gb337, 1, none⟩ = some (.int .i64 0) := (blk_cell BK337.out 1).trans rfl
              have hfs18 := blk_frozen BK337.out 1
              have hns18_0 := NB330_337.out
              have hms18_0 := NB337_330.out
              refine skip_ (w1 := ?_) (by rfl) rfl ?_ ?_
              rotate_left
              · go_simp
                rfl
              refine hK.out _ _ ⟨((cell_far (p := ⟨gb337, _, none⟩) (by first | exact Kd.own_blk (Kd.R_ne HO_4.out BK337.out (by decide)) | (rw [add_block]; exact Kd.own_blk (Kd.R_ne HO_4.out BK337.out (by decide))) | (show (Addr.add _ _).block ≠ _; rw [add_block]; exact Kd.own_blk (Kd.R_ne HO_4.out BK337.out (by decide))) | (dsimp only; exact Kd.own_blk (Kd.R_ne HO_4.out BK337.out (by decide)))) _).trans (((cell_far (p := ⟨gb337, _, none⟩) (by first | exact Kd.own_blk (Kd.R_ne HO_4.out BK337.out (by decide)) | (rw [add_block]; exact Kd.own_blk (Kd.R_ne HO_4.out BK337.out (by decide))) | (show (Addr.add _ _).block ≠ _; rw [add_block]; exact Kd.own_blk (Kd.R_ne HO_4.out BK337.out (by decide))) | (dsimp only; exact Kd.own_blk (Kd.R_ne HO_4.out BK337.out (by decide)))) _).trans (hHeld.1)))), ((cell_far (p := ⟨gb337, _, none⟩) (by first | exact Kd.own_blk (Kd.R_ne HO_4.out BK337.out (by decide)) | (rw [add_block]; exact Kd.own_blk (Kd.R_ne HO_4.out BK337.out (by decide))) | (show (Addr.add _ _).block ≠ _; rw [add_block]; exact Kd.own_blk (Kd.R_ne HO_4.out BK337.out (by decide))) | (dsimp only; exact Kd.own_blk (Kd.R_ne HO_4.out BK337.out (by decide)))) _).trans (((cell_far (p := ⟨gb337, _, none⟩) (by first | exact Kd.own_blk (Kd.R_ne HO_4.out BK337.out (by decide)) | (rw [add_block]; exact Kd.own_blk (Kd.R_ne HO_4.out BK337.out (by decide))) | (show (Addr.add _ _).block ≠ _; rw [add_block]; exact Kd.own_blk (Kd.R_ne HO_4.out BK337.out (by decide))) | (dsimp only; exact Kd.own_blk (Kd.R_ne HO_4.out BK337.out (by decide)))) _).trans (hHeld.2))))⟩ (fun hHeld => ?_)
              clear hK K
              refine done_ (done_of HT_.out (by kernel_rfl)) ?_
              have hnb19 := NB337_330.out
              have hnc19 := NB330_337.out
              have hcz20_0 : w16.cell? ⟨gb337, 0, none⟩ = some (.int .i64 0) := (blk_cell BK337.out 0).trans rfl
              have hcz20_1 : w16.cell? ⟨gb337, 1, none⟩ = some (.int .i64 0) := (blk_cell BK337.out 1).trans rfl
              have hfz20_0 := blk_frozen BK337.out 0
              have hfz20_1 := blk_frozen BK337.out 1
              try go_wp2_with (first | ((with_reducible refine gate_dst (N := 28) rfl ?_); (try (refine gate_guard (by rfl) ?_; dsimp only)); refine Kd.R_lit k23 _ 23 ?hg (N := 28) ?hd (xs := ([(⟨rd t331 0, rd t331 1⟩ : S23)] : List (S23))) (inner := [.int .i64 (rd t331 0), .int .i64 (rd t331 1)]) (ok := fun _ => True) (okp := fun _ => True) ?hr ?hp (fun _ hk => hk) trivial (Below.refl _ _) (Nat.le_refl _) (by simp) ?_; (case hd => rfl); (case hg => rfl); (case hr => first | (go_simp; done) | (go_simp; rfl)); (case hp => exact (Reps.c2 (show Kd.M k23 _ _ _ (⟨rd t331 0, rd t331 1⟩ : S23) [.int .i64 (rd t331 0), .int .i64 (rd t331 1)] from (k23_mkM _ _ _ (⟨rd t331 0, rd t331 1⟩ : S23) )) (Reps.none _ _))); intro v339 w21 ho22 hb hg_ hnew_; clear hg_ hnew_; (first | rw [← Ny338.out] at ho22 | (simp only [Int.reduceToNat] at ho22; rw [← Ny338.out] at ho22)); have n0_ := Aside0.mk (Kd.R_below (by (with_reducible repeat (first | apply Kd.R_alloc | apply Kd.R_drewN | apply Kd.R_drew)); exact (Kd.R_mono (Kd.R_far (p := ⟨gb337, 1, none⟩) (Kd.R_far (p := ⟨gb337, 0, none⟩) (Kd.R_types HO_4.out BK337.out (by decide)) (fun _ hk => hk.2) (.int .i64 (rd t331 0))) (fun _ hk => hk.2) (.int .i64 (rd t331 1))) (fun _ h_ => h_.1))) hb); have n1_ := Aside0.mk (Kd.R_lower (Kd.R_newB (Kd.R_newB ho22 (g := gb330) (o := .cells #[.int .i64 0, .int .i64 0] 23 (0, 0)) (by (with_reducible repeat (first | refine blk_drewN ?_ _ | refine blk_drew ?_ | refine blk_alloc ?_ _)); refine blk_far ?_ NB330_337.out _; (with_reducible repeat (first | refine blk_drewN ?_ _ | refine blk_drew ?_ | refine blk_alloc ?_ _)); refine blk_far ?_ NB330_337.out _; (with_reducible repeat (first | refine blk_drewN ?_ _ | refine blk_drew ?_ | refine blk_alloc ?_ _)); exact BK330.out)) (g := gb337) (o := .cells #[.int .i64 (rd t331 0), .int .i64 (rd t331 1)] 23 (0, 0)) (by (with_reducible repeat (first | refine blk_drewN ?_ _ | refine blk_drew ?_ | refine blk_alloc ?_ _)); refine blk_put (cs := #[.int .i64 (rd t331 0), .int .i64 0]) ?_ 1 _ rfl; (with_reducible repeat (first | refine blk_drewN ?_ _ | refine blk_drew ?_ | refine blk_alloc ?_ _)); refine blk_put (cs := #[.int .i64 0, .int .i64 0]) ?_ 0 _ rfl; (with_reducible repeat (first | refine blk_drewN ?_ _ | refine blk_drew ?_ | refine blk_alloc ?_ _)); exact BK337.out)) (below_size (by repeat (first | (with_reducible first | exact HB.out | apply below_alloc | apply pw_below_drewN | apply below_drew1 | refine below_set ?_ GE330.out | refine below_set ?_ GE337.out) | exact HB.out)))); have n2_ := Aside0.mk (blk_below (g := gb330) (o := .cells #[.int .i64 0, .int .i64 0] 23 (0, 0)) (by (with_reducible repeat (first | refine blk_drewN ?_ _ | refine blk_drew ?_ | refine blk_alloc ?_ _)); refine blk_far ?_ NB330_337.out _; (with_reducible repeat (first | refine blk_drewN ?_ _ | refine blk_drew ?_ | refine blk_alloc ?_ _)); refine blk_far ?_ NB330_337.out _; (with_reducible repeat (first | refine blk_drewN ?_ _ | refine blk_drew ?_ | refine blk_alloc ?_ _)); exact BK330.out) hb); have n3_ := Aside0.mk (blk_below (g := gb337) (o := .cells #[.int .i64 (rd t331 0), .int .i64 (rd t331 1)] 23 (0, 0)) (by (with_reducible repeat (first | refine blk_drewN ?_ _ | refine blk_drew ?_ | refine blk_alloc ?_ _)); refine blk_put (cs := #[.int .i64 (rd t331 0), .int .i64 0]) ?_ 1 _ rfl; (with_reducible repeat (first | refine blk_drewN ?_ _ | refine blk_drew ?_ | refine blk_alloc ?_ _)); refine blk_put (cs := #[.int .i64 0, .int .i64 0]) ?_ 0 _ rfl; (with_reducible repeat (first | refine blk_drewN ?_ _ | refine blk_drew ?_ | refine blk_alloc ?_ _)); exact BK337.out) hb); have n4_ := Aside0.mk (below_step (by repeat (first | (with_reducible first | exact HB.out | apply below_alloc | apply pw_below_drewN | apply below_drew1 | refine below_set ?_ GE330.out | refine below_set ?_ GE337.out) | exact HB.out)) hb); clear HO_4; clear BK330; clear BK337; clear HB; have HO_4 := n0_; have HO340 := n1_; have BK330 := n2_; have BK337 := n3_; have HB := n4_; clear n0_ n1_ n2_ n3_ n4_; clear hb ho22; obtain ⟨Ao23, co23, eo23⟩ := Kd.R_slice HO340.out; subst eo23) | ((with_reducible refine gate_callee (f := 54) rfl ?_); refine goesL_ (some 29) rfl rfl Tryd.func54 (by kernel_rfl) rfl #[.slice Ao23 y338.length co23] rfl (by (try simp only [List.map_toArray, List.map_cons, List.map_nil]); first | done | rfl | (simp only [List.length_drop, List.length_take]; rfl)) ?_; (with_reducible refine (accounts_are.calls _ _ y338 true _ ?side1 ?side2 ?side3 A12.out).mono ?_); (case side1 => exact Laid_below HLD.out (by repeat (first | (with_reducible first | exact HB.out | apply below_alloc | apply pw_below_drewN | apply below_drew1 | refine below_set ?_ GE330.out | refine below_set ?_ GE337.out) | exact HB.out))); (case side2 => repeat (first | exact (Kd.R_reads' HO340.out).2.2 | (with_reducible refine Kd.C_alloc ?_ _) | (with_reducible refine Kd.C_drewN ?_ _) | (with_reducible refine Kd.C_drew ?_))); (case side3 => exact (Kd.R_reads' HO340.out).2.1); rintro e w24 ⟨rfl, hb⟩; refine ⟨_, rfl, ?_⟩; have n0_ := Aside0.mk (Kd.R_below (by (with_reducible repeat (first | apply Kd.R_alloc | apply Kd.R_drewN | apply Kd.R_drew)); exact HO_4.out) hb); have n1_ := Aside0.mk (Kd.R_below (by (with_reducible repeat (first | apply Kd.R_alloc | apply Kd.R_drewN | apply Kd.R_drew)); exact HO340.out) hb); have n2_ := Aside0.mk (blk_below (g := gb330) (o := .cells #[.int .i64 0, .int .i64 0] 23 (0, 0)) (by (with_reducible repeat (first | refine blk_drewN ?_ _ | refine blk_drew ?_ | refine blk_alloc ?_ _)); exact BK330.out) hb); have n3_ := Aside0.mk (blk_below (g := gb337) (o := .cells #[.int .i64 (rd t331 0), .int .i64 (rd t331 1)] 23 (0, 0)) (by (with_reducible repeat (first | refine blk_drewN ?_ _ | refine blk_drew ?_ | refine blk_alloc ?_ _)); exact BK337.out) hb); have n4_ := Aside0.mk (below_step (by repeat (first | (with_reducible first | exact HB.out | apply below_alloc | apply pw_below_drewN | apply below_drew1 | refine below_set ?_ GE330.out | refine below_set ?_ GE337.out) | exact HB.out)) hb); clear HO_4; clear HO340; clear BK330; clear BK337; clear HB; have HO_4 := n0_; have HO340 := n1_; have BK330 := n2_; have BK337 := n3_; have HB := n4_; clear n0_ n1_ n2_ n3_ n4_; (try clear hb); (try clear hb2); (try clear hk); (try clear hi); have hcz25_0 : w24.cell? ⟨gb337, 0, none⟩ = some (.int .i64 (rd t331 0)) := (blk_cell BK337.out 0).trans rfl; have hcz25_1 : w24.cell? ⟨gb337, 1, none⟩ = some (.int .i64 (rd t331 1)) := (blk_cell BK337.out 1).trans rfl; have hfz25_0 := blk_frozen BK337.out 0; have hfz25_1 := blk_frozen BK337.out 1; have hcz26_0 : w24.cell? ⟨gb330, 0, none⟩ = some (.int .i64 0) := (blk_cell BK330.out 0).trans rfl; have hcz26_1 : w24.cell? ⟨gb330, 1, none⟩ = some (.int .i64 0) := (blk_cell BK330.out 1).trans rfl; have hfz26_0 := blk_frozen BK330.out 0; have hfz26_1 := blk_frozen BK330.out 1))
              refine bodyPost_ret (results_ct rfl _ _ gb330 23 #[.int .i64 (rd t331 0), .int .i64 (rd t331 1)] (0, 0) _ rfl (by (with_reducible repeat (first | refine blk_drewN ?_ _ | refine blk_drew ?_ | refine blk_alloc ?_ _)); refine blk_put (cs := #[.int .i64 (rd t331 0), .int .i64 0]) ?_ 1 _ rfl; (with_reducible repeat (first | refine blk_drewN ?_ _ | refine blk_drew ?_ | refine blk_alloc ?_ _)); refine blk_put (cs := #[.int .i64 0, .int .i64 0]) ?_ 0 _ rfl; (with_reducible repeat (first | refine blk_drewN ?_ _ | refine blk_drew ?_ | refine blk_alloc ?_ _)); exact BK330.out) Tryd.underlying23 rfl (by kernel_rfl)) rfl ?_
              exact ⟨by first | rfl | (simp [errW_none, errW_some] <;> rfl) | (simp [*, errW_none, errW_some] <;> rfl), by repeat (first | (with_reducible first | exact HB.out | apply below_alloc | apply pw_below_drewN | apply below_drew1 | refine below_set ?_ GE330.out | refine below_set ?_ GE337.out) | exact HB.out)⟩
            · replace c13 := Bool.eq_false_iff.mpr c13
              subst c13
              have H1 : (some (0, 0, 130)) = some (r1, r2, r3) := by rw [if_neg (show ¬ (false = true) by decide)] at H; exact H
              clear H
              have H := H1
              clear H1
              simp only [Option.some.injEq, Prod.mk.injEq] at H
              obtain ⟨rfl, rfl, rfl⟩ := H
              try go_wp2
              have n0_ := Aside0.mk (Kd.R_drew HO_4.out)
              have n1_ := Aside0.mk (blk_drew BK330.out)
              have n2_ := Aside0.mk (below_drew1 HB.out)
              clear HO_4
              clear BK330
              clear HB
              have HO_4 := n0_
              have BK330 := n1_
              have HB := n2_
              clear n0_ n1_ n2_
              obtain ⟨Ao28, co28, eo28⟩ := Kd.R_slice HO_4.out
              (first | subst eo28 | (injection eo28 with f1_ f2_ f3_; have f4_ := f1_.symm; have f5_ := f3_.symm; clear f1_ f2_ f3_; subst f4_; subst f5_))
              have p335 : 0 ≤ (0 : Int) := (by omega)
              have q335 : 0 < (t331.length : Int) := of_decide_eq_true (by first | (with_reducible assumption) | assumption)
              obtain ⟨ad335, e335, hx335_0⟩ := Kd.at_int (Kd.R_reads' HO_4.out).2.2 0 p335 q335
              cases e335
              have qi335 : (0 < t331.length) = True := eq_true (by omega)
              (try rw [show ((0 : Int)).toNat = 0 from rfl] at hx335_0)
              (try rw [Addr.add_zero'] at hx335_0)
              replace p335 := eq_true p335
              replace q335 := eq_true q335
              have p336 : 0 ≤ (1 : Int) := (by omega)
              have q336 : 1 < (t331.length : Int) := of_decide_eq_true (by first | (with_reducible assumption) | assumption)
              obtain ⟨ad336, e336, hx336_0⟩ := Kd.at_int (Kd.R_reads' HO_4.out).2.2 1 p336 q336
              obtain rfl : ad335 = ad336 := (by injection e336)
              (try simp only [show (1 : Int).toNat = 1 from rfl, Nat.reduceMul, Nat.reduceEqDiff, Go.Addr.add, ↓reduceIte] at hx336_0)
              have qi336 : (1 < t331.length) = True := eq_true (by omega)
              (try rw [show ((1 : Int)).toNat = 1 from rfl] at hx336_0)
              replace p336 := eq_true p336
              replace q336 := eq_true q336
              refine start_ (n := 9) (S := fun w' => w'.cell? ad335 = some (.int .i64 (rd t331 0)) ∧ w'.cell? ⟨ad335.block, ad335.off + 1, none⟩ = some (.int .i64 (rd t331 1))) (ds := []) #[false, false, false, false, false, false, false, false, false] (by kernel_rfl) rfl rfl ⟨hx335_0, hx336_0⟩ (fun hHeld => ?_); refine with_tabW accounts_Parse.tab4 accounts_Parse.bits4 (fun HT_ HW_ => ?_)
              generalize wc.drew = w27 at HO_4 BK330 HB hx335_0 hx336_0 hHeld ⊢
              refine pure_ (i := 0) (N := some 20) (v := ?_) (a' := ?_) #[true, false, false, false, false, false, false, false, false] rfl rfl (any_of HT_.out (by kernel_rfl)) (fun _ _ _ h => h) (Or.inl ⟨by rfl, ?_⟩) ?_ ?_
              rotate_left
              · intro w'
                go_simp
                with_reducible rfl
              rotate_left
              · simp only [Act.put, List.setIfInBounds_toArray, List.set_cons_zero, List.set_cons_succ, i64_w, i32_w]
                rfl
              refine pure_ (i := 1) (N := some 21) (v := ?_) (a' := ?_) #[true, true, false, false, false, false, false, false, false] rfl rfl (any_of HT_.out (by kernel_rfl)) (fun _ _ _ h => h) (Or.inl ⟨by rfl, ?_⟩) ?_ ?_
              rotate_left
              · intro w'
                go_simp
                with_reducible rfl
              rotate_left
              · simp only [Act.put, List.setIfInBounds_toArray, List.set_cons_zero, List.set_cons_succ, i64_w, i32_w]
                rfl
              refine pure_ (i := 3) (N := some 23) (v := ?_) (a' := ?_) #[true, true, false, true, false, false, false, false, false] rfl rfl (any_of HT_.out (by kernel_rfl)) (fun _ _ _ h => h) (Or.inl ⟨by rfl, ?_⟩) ?_ ?_
              rotate_left
              · intro w'
                go_simp
                with_reducible rfl
              rotate_left
              · simp only [Act.put, List.setIfInBounds_toArray, List.set_cons_zero, List.set_cons_succ, i64_w, i32_w]
                rfl
              refine pure_ (i := 4) (N := some 24) (v := ?_) (a' := ?_) #[true, true, false, true, true, false, false, false, false] rfl rfl (any_of HT_.out (by kernel_rfl)) (fun _ _ _ h => h) (Or.inl ⟨by rfl, ?_⟩) ?_ ?_
              rotate_left
              · intro w'
                go_simp
                with_reducible rfl
              rotate_left
              · simp only [Act.put, List.setIfInBounds_toArray, List.set_cons_zero, List.set_cons_succ, i64_w, i32_w]
                rfl
              refine take_ (i := 2) (N := some 22) (v := ?_) (a' := ?_) #[true, true, true, true, true, false, false, false, false] rfl rfl (take_ofW HT_.out HW_.out (by kernel_rfl)) (fun _ _ _ h => h) (Or.inl ⟨by rfl, ?_⟩) hHeld ?_ ?_
              rotate_left
              · rintro w' ⟨s0, s1⟩
                go_simp
                with_reducible rfl
              rotate_left
              · simp only [Act.put, List.setIfInBounds_toArray, List.set_cons_zero, List.set_cons_succ, i64_w, i32_w]
                rfl
              refine take_ (i := 5) (N := some 25) (v := ?_) (a' := ?_) #[true, true, true, true, true, true, false, false, false] rfl rfl (take_ofW HT_.out HW_.out (by kernel_rfl)) (fun _ _ _ h => h) (Or.inl ⟨by rfl, ?_⟩) hHeld ?_ ?_
              rotate_left
              · rintro w' ⟨s0, s1⟩
                go_simp
                with_reducible rfl
              rotate_left
              · simp only [Act.put, List.setIfInBounds_toArray, List.set_cons_zero, List.set_cons_succ, i64_w, i32_w]
                rfl
              refine pure_ (i := 6) (N := some 26) (v := ?_) (a' := ?_) #[true, true, true, true, true, true, true, false, false] rfl rfl (any_of HT_.out (by kernel_rfl)) (fun _ _ _ h => h) (Or.inl ⟨by rfl, ?_⟩) ?_ ?_
              rotate_left
              · intro w'
                go_simp
                with_reducible rfl
              rotate_left
              · simp only [Act.put, List.setIfInBounds_toArray, List.set_cons_zero, List.set_cons_succ, i64_w, i32_w]
                rfl
              refine one_ (i := 7) (N := some 6) #[true, true, true, true, true, true, true, true, false] rfl rfl (one_of HT_.out (by kernel_rfl)) (by decide) (fun K hK => ?_)
              refine box_step ?hg (N := 6) ?hd (cs := #[.int .i64 0, .int .i64 0]) (t := 23) ?hr ?_; (case hd => rfl); (case hg => rfl); (case hr => first | (go_simp; done) | (go_simp; rfl))
              intro gb337 hg w29 hbox hb
              have HS0_ := (hb.cell (World.block_lt_of_cell? _ _ (hHeld.1))).trans (hHeld.1)
              have HS1_ := (hb.cell (World.block_lt_of_cell? _ _ (hHeld.2))).trans (hHeld.2)
              have n0_ := Aside0.mk (Kd.R_below (by (with_reducible repeat (first | apply Kd.R_alloc | apply Kd.R_drewN | apply Kd.R_drew)); exact HO_4.out) hb)
              have n1_ := Aside0.mk (blk_below (g := gb330) (o := .cells #[.int .i64 0, .int .i64 0] 23 (0, 0)) (by (with_reducible repeat (first | refine blk_drewN ?_ _ | refine blk_drew ?_ | refine blk_alloc ?_ _)); exact BK330.out) hb)
              have n2_ := Aside0.mk (below_step (by repeat (first | (with_reducible first | exact HB.out | apply below_alloc | apply pw_below_drewN | apply below_drew1 | refine below_set ?_ GE330.out) | exact HB.out)) hb)
              have n3_ := Aside0.mk (hbox)
              have n4_ := Aside0.mk ((by rw [hg]; exact (below_size (by repeat (first | (with_reducible first | exact HB.out | apply below_alloc | apply pw_below_drewN | apply below_drew1 | refine below_set ?_ GE330.out) | exact HB.out))) : w.heap.size ≤ gb337))
              have n5_ := Aside0.mk ((by rw [hg]; exact (below_size (by repeat (first | (with_reducible first | exact HB.out | apply below_alloc | apply pw_below_drewN | apply below_drew1 | refine below_set ?_ GE330.out) | exact HB.out))) : w.heap.size ≤ gb337))
              have n6_ := Aside0.mk ((by rw [hg]; exact Nat.ne_of_lt (blk_lt (g := gb330) (o := .cells #[.int .i64 0, .int .i64 0] 23 (0, 0)) (by (with_reducible repeat (first | refine blk_drewN ?_ _ | refine blk_drew ?_ | refine blk_alloc ?_ _)); exact BK330.out)) : gb330 ≠ gb337))
              have n7_ := Aside0.mk ((by rw [hg]; exact Nat.ne_of_gt (blk_lt (g := gb330) (o := .cells #[.int .i64 0, .int .i64 0] 23 (0, 0)) (by (with_reducible repeat (first | refine blk_drewN ?_ _ | refine blk_drew ?_ | refine blk_alloc ?_ _)); exact BK330.out)) : gb337 ≠ gb330))
              clear HO_4
              clear BK330
              clear HB
              have HO_4 := n0_
              have BK330 := n1_
              have HB := n2_
              have BK337 := n3_
              have GW337 := n4_
              have GE337 := n5_
              have NB330_337 := n6_
              have NB337_330 := n7_
              clear n0_ n1_ n2_ n3_ n4_ n5_ n6_ n7_
              clear hb hbox hg
              refine hK.out _ _ ⟨HS0_, HS1_⟩ (fun hHeld => ?_)
              clear hK K
              refine norm_ (a' := ?_) ?_ ?_
              rotate_left
              · show Act.put _ (some 6) _ = _
                simp only [Act.put, List.setIfInBounds_toArray, List.set_cons_zero, List.set_cons_succ, i64_w, i32_w]
                rfl
              refine one_ (i := 8) (N := none) #[true, true, true, true, true, true, true, true, true] rfl rfl (one_of HT_.out (by kernel_rfl)) (by decide) (fun K hK => ?_)
              have hs30 : w29.cell? ⟨gb337, 0, none⟩ = some (.int .i64 0) := (blk_cell BK337.out 0).trans rfl
              have hfs30 := blk_frozen BK337.out 0
              have hns30_0 := NB330_337.out
              have hms30_0 := NB337_330.out
              have hs31 : w29.cell? ⟨gb337, 1, none⟩ = some (.int .i64 0) := (blk_cell BK337.out 1).trans rfl
              have hfs31 := blk_frozen BK337.out 1
              have hns31_0 := NB330_337.out
              have hms31_0 := NB337_330.out
              refine skip_ (w1 := ?_) (by rfl) rfl ?_ ?_
              rotate_left
              · go_simp
                rfl
              refine hK.out _ _ ⟨((cell_far (p := ⟨gb337, _, none⟩) (by first | exact Kd.own_blk (Kd.R_ne HO_4.out BK337.out (by decide)) | (rw [add_block]; exact Kd.own_blk (Kd.R_ne HO_4.out BK337.out (by decide))) | (show (Addr.add _ _).block ≠ _; rw [add_block]; exact Kd.own_blk (Kd.R_ne HO_4.out BK337.out (by decide))) | (dsimp only; exact Kd.own_blk (Kd.R_ne HO_4.out BK337.out (by decide)))) _).trans (((cell_far (p := ⟨gb337, _, none⟩) (by first | exact Kd.own_blk (Kd.R_ne HO_4.out BK337.out (by decide)) | (rw [add_block]; exact Kd.own_blk (Kd.R_ne HO_4.out BK337.out (by decide))) | (show (Addr.add _ _).block ≠ _; rw [add_block]; exact Kd.own_blk (Kd.R_ne HO_4.out BK337.out (by decide))) | (dsimp only; exact Kd.own_blk (Kd.R_ne HO_4.out BK337.out (by decide)))) _).trans (hHeld.1)))), ((cell_far (p := ⟨gb337, _, none⟩) (by first | exact Kd.own_blk (Kd.R_ne HO_4.out BK337.out (by decide)) | (rw [add_block]; exact Kd.own_blk (Kd.R_ne HO_4.out BK337.out (by decide))) | (show (Addr.add _ _).block ≠ _; rw [add_block]; exact Kd.own_blk (Kd.R_ne HO_4.out BK337.out (by decide))) | (dsimp only; exact Kd.own_blk (Kd.R_ne HO_4.out BK337.out (by decide)))) _).trans (((cell_far (p := ⟨gb337, _, none⟩) (by first | exact Kd.own_blk (Kd.R_ne HO_4.out BK337.out (by decide)) | (rw [add_block]; exact Kd.own_blk (Kd.R_ne HO_4.out BK337.out (by decide))) | (show (Addr.add _ _).block ≠ _; rw [add_block]; exact Kd.own_blk (Kd.R_ne HO_4.out BK337.out (by decide))) | (dsimp only; exact Kd.own_blk (Kd.R_ne HO_4.out BK337.out (by decide)))) _).trans (hHeld.2))))⟩ (fun hHeld => ?_)
              clear hK K
              refine done_ (done_of HT_.out (by kernel_rfl)) ?_
              have hnb32 := NB337_330.out
              have hnc32 := NB330_337.out
              have hcz33_0 : w29.cell? ⟨gb337, 0, none⟩ = some (.int .i64 0) := (blk_cell BK337.out 0).trans rfl
              have hcz33_1 : w29.cell? ⟨gb337, 1, none⟩ = some (.int .i64 0) := (blk_cell BK337.out 1).trans rfl
              have hfz33_0 := blk_frozen BK337.out 0
              have hfz33_1 := blk_frozen BK337.out 1
              try go_wp2_with (first | ((with_reducible refine gate_dst (N := 28) rfl ?_); (try (refine gate_guard (by rfl) ?_; dsimp only)); refine Kd.R_lit k23 _ 23 ?hg (N := 28) ?hd (xs := ([(⟨rd t331 0, rd t331 1⟩ : S23)] : List (S23))) (inner := [.int .i64 (rd t331 0), .int .i64 (rd t331 1)]) (ok := fun _ => True) (okp := fun _ => True) ?hr ?hp (fun _ hk => hk) trivial (Below.refl _ _) (Nat.le_refl _) (by simp) ?_; (case hd => rfl); (case hg => rfl); (case hr => first | (go_simp; done) | (go_simp; rfl)); (case hp => exact (Reps.c2 (show Kd.M k23 _ _ _ (⟨rd t331 0, rd t331 1⟩ : S23) [.int .i64 (rd t331 0), .int .i64 (rd t331 1)] from (k23_mkM _ _ _ (⟨rd t331 0, rd t331 1⟩ : S23) )) (Reps.none _ _))); intro v339 w34 ho35 hb hg_ hnew_; clear hg_ hnew_; (first | rw [← Ny338.out] at ho35 | (simp only [Int.reduceToNat] at ho35; rw [← Ny338.out] at ho35)); have n0_ := Aside0.mk (Kd.R_below (by (with_reducible repeat (first | apply Kd.R_alloc | apply Kd.R_drewN | apply Kd.R_drew)); exact (Kd.R_mono (Kd.R_far (p := ⟨gb337, 1, none⟩) (Kd.R_far (p := ⟨gb337, 0, none⟩) (Kd.R_types HO_4.out BK337.out (by decide)) (fun _ hk => hk.2) (.int .i64 (rd t331 0))) (fun _ hk => hk.2) (.int .i64 (rd t331 1))) (fun _ h_ => h_.1))) hb); have n1_ := Aside0.mk (Kd.R_lower (Kd.R_newB (Kd.R_newB ho35 (g := gb330) (o := .cells #[.int .i64 0, .int .i64 0] 23 (0, 0)) (by (with_reducible repeat (first | refine blk_drewN ?_ _ | refine blk_drew ?_ | refine blk_alloc ?_ _)); refine blk_far ?_ NB330_337.out _; (with_reducible repeat (first | refine blk_drewN ?_ _ | refine blk_drew ?_ | refine blk_alloc ?_ _)); refine blk_far ?_ NB330_337.out _; (with_reducible repeat (first | refine blk_drewN ?_ _ | refine blk_drew ?_ | refine blk_alloc ?_ _)); exact BK330.out)) (g := gb337) (o := .cells #[.int .i64 (rd t331 0), .int .i64 (rd t331 1)] 23 (0, 0)) (by (with_reducible repeat (first | refine blk_drewN ?_ _ | refine blk_drew ?_ | refine blk_alloc ?_ _)); refine blk_put (cs := #[.int .i64 (rd t331 0), .int .i64 0]) ?_ 1 _ rfl; (with_reducible repeat (first | refine blk_drewN ?_ _ | refine blk_drew ?_ | refine blk_alloc ?_ _)); refine blk_put (cs := #[.int .i64 0, .int .i64 0]) ?_ 0 _ rfl; (with_reducible repeat (first | refine blk_drewN ?_ _ | refine blk_drew ?_ | refine blk_alloc ?_ _)); exact BK337.out)) (below_size (by repeat (first | (with_reducible first | exact HB.out | apply below_alloc | apply pw_below_drewN | apply below_drew1 | refine below_set ?_ GE330.out | refine below_set ?_ GE337.out) | exact HB.out)))); have n2_ := Aside0.mk (blk_below (g := gb330) (o := .cells #[.int .i64 0, .int .i64 0] 23 (0, 0)) (by (with_reducible repeat (first | refine blk_drewN ?_ _ | refine blk_drew ?_ | refine blk_alloc ?_ _)); refine blk_far ?_ NB330_337.out _; (with_reducible repeat (first | refine blk_drewN ?_ _ | refine blk_drew ?_ | refine blk_alloc ?_ _)); refine blk_far ?_ NB330_337.out _; (with_reducible repeat (first | refine blk_drewN ?_ _ | refine blk_drew ?_ | refine blk_alloc ?_ _)); exact BK330.out) hb); have n3_ := Aside0.mk (blk_below (g := gb337) (o := .cells #[.int .i64 (rd t331 0), .int .i64 (rd t331 1)] 23 (0, 0)) (by (with_reducible repeat (first | refine blk_drewN ?_ _ | refine blk_drew ?_ | refine blk_alloc ?_ _)); refine blk_put (cs := #[.int .i64 (rd t331 0), .int .i64 0]) ?_ 1 _ rfl; (with_reducible repeat (first | refine blk_drewN ?_ _ | refine blk_drew ?_ | refine blk_alloc ?_ _)); refine blk_put (cs := #[.int .i64 0, .int .i64 0]) ?_ 0 _ rfl; (with_reducible repeat (first | refine blk_drewN ?_ _ | refine blk_drew ?_ | refine blk_alloc ?_ _)); exact BK337.out) hb); have n4_ := Aside0.mk (below_step (by repeat (first | (with_reducible first | exact HB.out | apply below_alloc | apply pw_below_drewN | apply below_drew1 | refine below_set ?_ GE330.out | refine below_set ?_ GE337.out) | exact HB.out)) hb); clear HO_4; clear BK330; clear BK337; clear HB; have HO_4 := n0_; have HO340 := n1_; have BK330 := n2_; have BK337 := n3_; have HB := n4_; clear n0_ n1_ n2_ n3_ n4_; clear hb ho35; obtain ⟨Ao36, co36, eo36⟩ := Kd.R_slice HO340.out; subst eo36) | ((with_reducible refine gate_callee (f := 54) rfl ?_); refine goesL_ (some 29) rfl rfl Tryd.func54 (by kernel_rfl) rfl #[.slice Ao36 y338.length co36] rfl (by (try simp only [List.map_toArray, List.map_cons, List.map_nil]); first | done | rfl | (simp only [List.length_drop, List.length_take]; rfl)) ?_; (with_reducible refine (accounts_are.calls _ _ y338 false _ ?side1 ?side2 ?side3 A12.out).mono ?_); (case side1 => exact Laid_below HLD.out (by repeat (first | (with_reducible first | exact HB.out | apply below_alloc | apply pw_below_drewN | apply below_drew1 | refine below_set ?_ GE330.out | refine below_set ?_ GE337.out) | exact HB.out))); (case side2 => repeat (first | exact (Kd.R_reads' HO340.out).2.2 | (with_reducible refine Kd.C_alloc ?_ _) | (with_reducible refine Kd.C_drewN ?_ _) | (with_reducible refine Kd.C_drew ?_))); (case side3 => exact (Kd.R_reads' HO340.out).2.1); rintro e w37 ⟨rfl, hb⟩; refine ⟨_, rfl, ?_⟩; have n0_ := Aside0.mk (Kd.R_below (by (with_reducible repeat (first | apply Kd.R_alloc | apply Kd.R_drewN | apply Kd.R_drew)); exact HO_4.out) hb); have n1_ := Aside0.mk (Kd.R_below (by (with_reducible repeat (first | apply Kd.R_alloc | apply Kd.R_drewN | apply Kd.R_drew)); exact HO340.out) hb); have n2_ := Aside0.mk (blk_below (g := gb330) (o := .cells #[.int .i64 0, .int .i64 0] 23 (0, 0)) (by (with_reducible repeat (first | refine blk_drewN ?_ _ | refine blk_drew ?_ | refine blk_alloc ?_ _)); exact BK330.out) hb); have n3_ := Aside0.mk (blk_below (g := gb337) (o := .cells #[.int .i64 (rd t331 0), .int .i64 (rd t331 1)] 23 (0, 0)) (by (with_reducible repeat (first | refine blk_drewN ?_ _ | refine blk_drew ?_ | refine blk_alloc ?_ _)); exact BK337.out) hb); have n4_ := Aside0.mk (below_step (by repeat (first | (with_reducible first | exact HB.out | apply below_alloc | apply pw_below_drewN | apply below_drew1 | refine below_set ?_ GE330.out | refine below_set ?_ GE337.out) | exact HB.out)) hb); clear HO_4; clear HO340; clear BK330; clear BK337; clear HB; have HO_4 := n0_; have HO340 := n1_; have BK330 := n2_; have BK337 := n3_; have HB := n4_; clear n0_ n1_ n2_ n3_ n4_; (try clear hb); (try clear hb2); (try clear hk); (try clear hi); have hcz38_0 : w37.cell? ⟨gb330, 0, none⟩ = some (.int .i64 0) := (blk_cell BK330.out 0).trans rfl; have hcz38_1 : w37.cell? ⟨gb330, 1, none⟩ = some (.int .i64 0) := (blk_cell BK330.out 1).trans rfl; have hfz38_0 := blk_frozen BK330.out 0; have hfz38_1 := blk_frozen BK330.out 1))
              refine bodyPost_ret (results_ct rfl _ _ gb330 23 #[.int .i64 0, .int .i64 0] (0, 0) _ rfl (by (with_reducible repeat (first | refine blk_drewN ?_ _ | refine blk_drew ?_ | refine blk_alloc ?_ _)); refine blk_put (cs := #[.int .i64 0, .int .i64 0]) ?_ 1 _ rfl; (with_reducible repeat (first | refine blk_drewN ?_ _ | refine blk_drew ?_ | refine blk_alloc ?_ _)); refine blk_put (cs := #[.int .i64 0, .int .i64 0]) ?_ 0 _ rfl; (with_reducible repeat (first | refine blk_drewN ?_ _ | refine blk_drew ?_ | refine blk_alloc ?_ _)); exact BK330.out) Tryd.underlying23 rfl (by kernel_rfl)) rfl ?_
              exact ⟨by first | rfl | (simp [errW_none, errW_some] <;> rfl) | (simp [*, errW_none, errW_some] <;> rfl), by repeat (first | (with_reducible first | exact HB.out | apply below_alloc | apply pw_below_drewN | apply below_drew1 | refine below_set ?_ GE330.out | refine below_set ?_ GE337.out) | exact HB.out)⟩
          · rw [if_neg c11] at H
            exact absurd H (by simp)
        · rw [if_neg c10] at H
          exact absurd H (by simp)

end Go.Proofs.YtgnjodocggihoaaDoor.K
