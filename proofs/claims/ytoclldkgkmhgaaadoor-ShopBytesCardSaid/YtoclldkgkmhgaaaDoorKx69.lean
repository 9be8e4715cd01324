-- Printed by a program of this session (a turned copy of the print); what it takes as given stands in the seat's own texts.
import Derived.Test.YtoclldkgkmhgaaaDoorKx0
import Derived.Test.YtoclldkgkmhgaaaDoorKx29
import Derived.Test.YtoclldkgkmhgaaaDoorKx59
namespace Go.Proofs.YtoclldkgkmhgaaaDoor.K
open Go.RowKit Go.Proofs.YtoclldkgkmhgaaaDoorW.PrintWords Go.Proofs.YtoclldkgkmhgaaaDoorW.PrintLast Go.Proofs.YtoclldkgkmhgaaaDoorW.PrintMore
attribute [local go_sem] max2_int min2_int max_two min_two max_three min_three max_four min_four   -- for this text's walks alone
set_option linter.unusedVariables false
set_option linter.unusedSimpArgs false

/-! ### bazaarref15_Parse: function 40 -/
def bazaarref15_Parse.f (k : Nat) (a0 : ByteArray) : Option (Int × Int × Int × Int × Int) := if (a0.size : Int) = 22 then (if 0 ≤ 4 then (if 4 ≤ (a0.size : Int) then ((bazaarref03_Get.f k (a0.extract 0 4)).bind fun t581 => (if 4 ≤ 6 then (if 6 ≤ (a0.size : Int) then ((bazaarref03_Get.f k (a0.extract 4 6)).bind fun t582 => (if 6 ≤ 14 then (if 14 ≤ (a0.size : Int) then ((bazaarref03_Get.f k (a0.extract 6 14)).bind fun t583 => (if 14 ≤ 22 then (if 22 ≤ (a0.size : Int) then ((bazaarref03_Get.f k (a0.extract 14 22)).bind fun t584 => ((bazaarref15_Right.f ((t581) % 4294967296) (IntKind.u16.wrap (t582)) (wrap64 (t583)) (wrap64 (t584))).bind fun t586 => (if t586 = true then (some ((t581) % 4294967296, IntKind.u16.wrap (t582), wrap64 (t583), wrap64 (t584), 0)) else (some (0, 0, 0, 0, 150))))) else (none)) else (none))) else (none)) else (none))) else (none)) else (none))) else (none)) else (none)) else (some (0, 0, 0, 0, 150))
def bazaarref15_Parse.T3 : Bool × List (List Nat × List Nat) := (true, [([], []), ([0], [0]), ([1], [1]), ([2], [2]), ([], []), ([4], [4]), ([5, 2], [5]), ([6], [6]), ([], []), ([8], [8]), ([9, 6], [9]), ([10], [10]), ([7, 11], [7, 11]), ([], []), ([13], [13]), ([14, 10], [14]), ([15], [15]), ([3, 12, 16], [3, 12, 16]), ([], []), ([18, 17, 15, 0, 1, 2, 3, 4, 5, 6, 7, 8, 9, 10, 11, 12, 13, 14, 15, 16, 17, 18], [17, 18])])
def bazaarref15_Parse.B3 : List Nat := [0, 1, 3, 7, 0, 16, 55, 119, 0, 256, 887, 1911, 4087, 0, 8192, 26487, 59255, 131071, 0, 524287]
theorem bazaarref15_Parse.tab3 : rtab .any (opsOf Tryd.f40 3) = bazaarref15_Parse.T3 := by kernel_rfl
theorem bazaarref15_Parse.bits3 : waitsOk bazaarref15_Parse.T3.2 bazaarref15_Parse.B3 = true := by kernel_rfl
set_option maxHeartbeats 8000000 in
set_option maxRecDepth 100000 in
theorem bazaarref15_Parse.calls (k : Nat) (a0 : ByteArray) (r1 : Int) (r2 : Int) (r3 : Int) (r4 : Int) (r5 : Int) (w : World) (hL : Laid w) (h : bazaarref15_Parse.f k a0 = some (r1, r2, r3, r4, r5)) :
    Calls Tryd.prog 40 #[.string a0] w fun e w' => e = .returned (.tuple #[.agg #[.int .u32 r1, .int .u16 r2, .int .i64 r3, .int .i64 r4], .int .i64 r5]) ∧ Below w.heap.size w w' := by
  have hu49 := Tryd.underlying49
  have hu25 := Tryd.underlying25
  have HLD := Aside0.mk hL
  clear hL
  have HB := Aside0.mk (Below.refl w.heap.size w)
  have H : (if (a0.size : Int) = 22 then (if 0 ≤ 4 then (if 4 ≤ (a0.size : Int) then ((bazaarref03_Get.f k (a0.extract 0 4)).bind fun t581 => (if 4 ≤ 6 then (if 6 ≤ (a0.size : Int) then ((bazaarref03_Get.f k (a0.extract 4 6)).bind fun t582 => (if 6 ≤ 14 then (if 14 ≤ (a0.size : Int) then ((bazaarref03_Get.f k (a0.extract 6 14)).bind fun t583 => (if 14 ≤ 22 then (if 22 ≤ (a0.size : Int) then ((bazaarref03_Get.f k (a0.extract 14 22)).bind fun t584 => ((bazaarref15_Right.f ((t581) % 4294967296) (IntKind.u16.wrap (t582)) (wrap64 (t583)) (wrap64 (t584))).bind fun t586 => (if t586 = true then (some ((t581) % 4294967296, IntKind.u16.wrap (t582), wrap64 (t583), wrap64 (t584), 0)) else (some (0, 0, 0, 0, 150))))) else (none)) else (none))) else (none)) else (none))) else (none)) else (none))) else (none)) else (none)) else (some (0, 0, 0, 0, 150))) = some (r1, r2, r3, r4, r5) := h
  clear h
  by_cases c2 : (a0.size : Int) = 22
  · rw [if_pos c2] at H
    have c2b0 : ((a0.size : Int) == 22) = true := beq_iff_eq.mpr c2
    have c2b1 : ((a0.size : Int) != 22) = false := bne_eq_false_iff_eq.mpr c2
    clear c2
    by_cases c3 : 0 ≤ 4
    · rw [if_pos c3] at H
      have c3b0 := eq_true c3
      have c3b1 : decide (0 ≤ 4) = true := decide_eq_true c3
      clear c3
      by_cases c4 : 4 ≤ (a0.size : Int)
      · rw [if_pos c4] at H
        have c4b0 := eq_true c4
        have c4b1 : decide (4 ≤ (a0.size : Int)) = true := decide_eq_true c4
        clear c4
        replace H := Option.bind_eq_some_iff.mp H
        obtain ⟨t581, A50, H⟩ := H
        replace H : (if 4 ≤ 6 then (if 6 ≤ (a0.size : Int) then ((bazaarref03_Get.f k (a0.extract 4 6)).bind fun t582 => (if 6 ≤ 14 then (if 14 ≤ (a0.size : Int) then ((bazaarref03_Get.f k (a0.extract 6 14)).bind fun t583 => (if 14 ≤ 22 then (if 22 ≤ (a0.size : Int) then ((bazaarref03_Get.f k (a0.extract 14 22)).bind fun t584 => ((bazaarref15_Right.f ((t581) % 4294967296) (IntKind.u16.wrap (t582)) (wrap64 (t583)) (wrap64 (t584))).bind fun t586 => (if t586 = true then (some ((t581) % 4294967296, IntKind.u16.wrap (t582), wrap64 (t583), wrap64 (t584), 0)) else (some (0, 0, 0, 0, 150))))) else (none)) else (none))) else (none)) else (none))) else (none)) else (none)) = some (r1, r2, r3, r4, r5) := H
        have A5 := Aside0.mk A50
        clear A50
        by_cases c6 : 4 ≤ 6
        · rw [if_pos c6] at H
          have c6b0 := eq_true c6
          have c6b1 : decide (4 ≤ 6) = true := decide_eq_true c6
          clear c6
          by_cases c7 : 6 ≤ (a0.size : Int)
          · rw [if_pos c7] at H
            have c7b0 := eq_true c7
            have c7b1 : decide (6 ≤ (a0.size : Int)) = true := decide_eq_true c7
            clear c7
            replace H := Option.bind_eq_some_iff.mp H
            obtain ⟨t582, A80, H⟩ := H
            replace H : (if 6 ≤ 14 then (if 14 ≤ (a0.size : Int) then ((bazaarref03_Get.f k (a0.extract 6 14)).bind fun t583 => (if 14 ≤ 22 then (if 22 ≤ (a0.size : Int) then ((bazaarref03_Get.f k (a0.extract 14 22)).bind fun t584 => ((bazaarref15_Right.f ((t581) % 4294967296) (IntKind.u16.wrap (t582)) (wrap64 (t583)) (wrap64 (t584))).bind fun t586 => (if t586 = true then (some ((t581) % 4294967296, IntKind.u16.wrap (t582), wrap64 (t583), wrap64 (t584), 0)) else (some (0, 0, 0, 0, 150))))) else (none)) else (none))) else (none)) else (none)) = some (r1, r2, r3, r4, r5) := H
            have A8 := Aside0.mk A80
            clear A80
            by_cases c9 : 6 ≤ 14
            · rw [if_pos c9] at H
              have c9b0 := eq_true c9
              have c9b1 : decide (6 ≤ 14) = true := decide_eq_true c9
              clear c9
              by_cases c10 : 14 ≤ (a0.size : Int)
              · rw [if_pos c10] at H
                have c10b0 := eq_true c10
                have c10b1 : decide (14 ≤ (a0.size : Int)) = true := decide_eq_true c10
                clear c10
                replace H := Option.bind_eq_some_iff.mp H
                obtain ⟨t583, A110, H⟩ := H
                replace H : (if 14 ≤ 22 then (if 22 ≤ (a0.size : Int) then ((bazaarref03_Get.f k (a0.extract 14 22)).bind fun t584 => ((bazaarref15_Right.f ((t581) % 4294967296) (IntKind.u16.wrap (t582)) (wrap64 (t583)) (wrap64 (t584))).bind fun t586 => (if t586 = true then (some ((t581) % 4294967296, IntKind.u16.wrap (t582), wrap64 (t583), wrap64 (t584), 0)) else (some (0, 0, 0, 0, 150))))) else (none)) else (none)) = some (r1, r2, r3, r4, r5) := H
                have A11 := Aside0.mk A110
                clear A110
                by_cases c12 : 14 ≤ 22
                · rw [if_pos c12] at H
                  have c12b0 := eq_true c12
                  have c12b1 : decide (14 ≤ 22) = true := decide_eq_true c12
                  clear c12
                  by_cases c13 : 22 ≤ (a0.size : Int)
                  · rw [if_pos c13] at H
                    have c13b0 := eq_true c13
                    have c13b1 : decide (22 ≤ (a0.size : Int)) = true := decide_eq_true c13
                    clear c13
                    replace H := Option.bind_eq_some_iff.mp H
                    obtain ⟨t584, A140, H⟩ := H
                    replace H : ((bazaarref15_Right.f ((t581) % 4294967296) (IntKind.u16.wrap (t582)) (wrap64 (t583)) (wrap64 (t584))).bind fun t586 => (if t586 = true then (some ((t581) % 4294967296, IntKind.u16.wrap (t582), wrap64 (t583), wrap64 (t584), 0)) else (some (0, 0, 0, 0, 150)))) = some (r1, r2, r3, r4, r5) := H
                    have A14 := Aside0.mk A140
                    clear A140
                    replace H := Option.bind_eq_some_iff.mp H
                    obtain ⟨t586, A150, H⟩ := H
                    replace H : (if t586 = true then (some ((t581) % 4294967296, IntKind.u16.wrap (t582), wrap64 (t583), wrap64 (t584), 0)) else (some (0, 0, 0, 0, 150))) = some (r1, r2, r3, r4, r5) := H
                    have A15 := Aside0.mk A150
                    clear A150
                    by_cases c16 : t586 = true
                    · subst c16
                      have H1 : (some ((t581) % 4294967296, IntKind.u16.wrap (t582), wrap64 (t583), wrap64 (t584), 0)) = some (r1, r2, r3, r4, r5) := by rw [if_pos rfl] at H; exact H
                      clear H
                      have H := H1
                      clear H1
                      simp only [Option.some.injEq, Prod.mk.injEq] at H
                      obtain ⟨rfl, rfl, rfl, rfl, rfl⟩ := H
                      go_enter Tryd.func40, Tryd.ntmps40
                      try go_wp2_with (first | ((with_reducible refine gate_dst (N := 2) rfl ?_); refine box_event ?hg (N := 2) ?hd (cs := #[.int .u32 0, .int .u16 0, .int .i64 0, .int .i64 0]) (t := 49) ?hr ?_; (case hd => rfl); (case hg => rfl); (case hr => first | (go_simp; done) | (go_simp; rfl)); intro gb580 hg w17 hbox hb; have n0_ := Aside0.mk (below_step (by repeat (first | (with_reducible first | exact HB.out | apply below_alloc | apply pw_below_drewN | apply below_drew1) | exact HB.out)) hb); have n1_ := Aside0.mk (hbox); have n2_ := Aside0.mk ((by rw [hg]; exact (below_size (by repeat (first | (with_reducible first | exact HB.out | apply below_alloc | apply pw_below_drewN | apply below_drew1) | exact HB.out))) : w.heap.size ≤ gb580)); have n3_ := Aside0.mk ((by rw [hg]; exact (below_size (by repeat (first | (with_reducible first | exact HB.out | apply below_alloc | apply pw_below_drewN | apply below_drew1) | exact HB.out))) : w.heap.size ≤ gb580)); clear HB; have HB := n0_; have BK580 := n1_; have GW580 := n2_; have GE580 := n3_; clear n0_ n1_ n2_ n3_; clear hb hbox hg))
                      have n0_ := Aside0.mk (blk_drew BK580.out)
                      have n1_ := Aside0.mk (below_drew1 HB.out)
                      clear BK580
                      clear HB
                      have BK580 := n0_
                      have HB := n1_
                      clear n0_ n1_
                      refine start_ (n := 20) (S := fun w' => True) (ds := []) #[false, false, false, false, false, false, false, false, false, false, false, false, false, false, false, false, false, false, false, false] (by kernel_rfl) rfl rfl trivial (fun hHeld => ?_); refine with_tabW bazaarref15_Parse.tab3 bazaarref15_Parse.bits3 (fun HT_ HW_ => ?_)
                      generalize w17.drew = w18 at BK580 HB hHeld ⊢
                      refine pure_ (i := 0) (N := some 10) (v := ?_) (a' := ?_) #[true, false, false, false, false, false, false, false, false, false, false, false, false, false, false, false, false, false, false, false] rfl rfl (any_of HT_.out (by kernel_rfl)) (fun _ _ _ h => h) (Or.inl ⟨by rfl, ?_⟩) ?_ ?_
                      rotate_left
                      · intro w'
                        go_simp
                        with_reducible rfl
                      rotate_left
                      · simp only [Act.put, List.setIfInBounds_toArray, List.set_cons_zero, List.set_cons_succ, i64_w, i32_w]
                        rfl
                      refine pure_ (i := 1) (N := some 11) (v := ?_) (a' := ?_) #[true, true, false, false, false, false, false, false, false, false, false, false, false, false, false, false, false, false, false, false] rfl rfl (any_of HT_.out (by kernel_rfl)) (fun _ _ _ h => h) (Or.inl ⟨by rfl, ?_⟩) ?_ ?_
                      rotate_left
                      · intro w'
                        go_simp
                        with_reducible rfl
                      rotate_left
                      · simp only [Act.put, List.setIfInBounds_toArray, List.set_cons_zero, List.set_cons_succ, i64_w, i32_w]
                        rfl
                      refine pure_ (i := 4) (N := some 14) (v := ?_) (a' := ?_) #[true, true, false, false, true, false, false, false, false, false, false, false, false, false, false, false, false, false, false, false] rfl rfl (any_of HT_.out (by kernel_rfl)) (fun _ _ _ h => h) (Or.inl ⟨by rfl, ?_⟩) ?_ ?_
                      rotate_left
                      · intro w'
                        go_simp
                        with_reducible rfl
                      rotate_left
                      · simp only [Act.put, List.setIfInBounds_toArray, List.set_cons_zero, List.set_cons_succ, i64_w, i32_w]
                        rfl
                      refine pure_ (i := 5) (N := some 15) (v := ?_) (a' := ?_) #[true, true, false, false, true, true, false, false, false, false, false, false, false, false, false, false, false, false, false, false] rfl rfl (any_of HT_.out (by kernel_rfl)) (fun _ _ _ h => h) (Or.inl ⟨by rfl, ?_⟩) ?_ ?_
                      rotate_left
                      · intro w'
                        go_simp
                        with_reducible rfl
                      rotate_left
                      · simp only [Act.put, List.setIfInBounds_toArray, List.set_cons_zero, List.set_cons_succ, i64_w, i32_w]
                        rfl
                      refine pure_ (i := 8) (N := some 18) (v := ?_) (a' := ?_) #[true, true, false, false, true, true, false, false, true, false, false, false, false, false, false, false, false, false, false, false] rfl rfl (any_of HT_.out (by kernel_rfl)) (fun _ _ _ h => h) (Or.inl ⟨by rfl, ?_⟩) ?_ ?_
                      rotate_left
                      · intro w'
                        go_simp
                        with_reducible rfl
                      rotate_left
                      · simp only [Act.put, List.setIfInBounds_toArray, List.set_cons_zero, List.set_cons_succ, i64_w, i32_w]
                        rfl
                      refine pure_ (i := 9) (N := some 19) (v := ?_) (a' := ?_) #[true, true, false, false, true, true, false, false, true, true, false, false, false, false, false, false, false, false, false, false] rfl rfl (any_of HT_.out (by kernel_rfl)) (fun _ _ _ h => h) (Or.inl ⟨by rfl, ?_⟩) ?_ ?_
                      rotate_left
                      · intro w'
                        go_simp
                        with_reducible rfl
                      rotate_left
                      · simp only [Act.put, List.setIfInBounds_toArray, List.set_cons_zero, List.set_cons_succ, i64_w, i32_w]
                        rfl
                      refine pure_ (i := 13) (N := some 23) (v := ?_) (a' := ?_) #[true, true, false, false, true, true, false, false, true, true, false, false, false, true, false, false, false, false, false, false] rfl rfl (any_of HT_.out (by kernel_rfl)) (fun _ _ _ h => h) (Or.inl ⟨by rfl, ?_⟩) ?_ ?_
                      rotate_left
                      · intro w'
                        go_simp
                        with_reducible rfl
                      rotate_left
                      · simp only [Act.put, List.setIfInBounds_toArray, List.set_cons_zero, List.set_cons_succ, i64_w, i32_w]
                        rfl
                      refine pure_ (i := 14) (N := some 24) (v := ?_) (a' := ?_) #[true, true, false, false, true, true, false, false, true, true, false, false, false, true, true, false, false, false, false, false] rfl rfl (any_of HT_.out (by kernel_rfl)) (fun _ _ _ h => h) (Or.inl ⟨by rfl, ?_⟩) ?_ ?_
                      rotate_left
                      · intro w'
                        go_simp
                        with_reducible rfl
                      rotate_left
                      · simp only [Act.put, List.setIfInBounds_toArray, List.set_cons_zero, List.set_cons_succ, i64_w, i32_w]
                        rfl
                      refine join_ (σ := Nat) 1 #[true, true, true, true, true, true, true, true, true, true, true, true, true, true, true, true, true, true, true, false] (fun s_ => [(12, .int .u64 t581), (16, .int .u64 t582), (20, .int .u64 t583), (25, .int .u64 t584), (4, .pointer (some ⟨s_, 0, none⟩)), (13, .int .u32 ((t581) % 4294967296)), (17, .int .u16 (IntKind.u16.wrap (t582))), (21, .int .i64 (wrap64 (t583))), (22, .agg #[.int .u16 (IntKind.u16.wrap (t582)), .int .i64 (wrap64 (t583))]), (26, .int .i64 (wrap64 (t584))), (27, .agg #[.int .u32 ((t581) % 4294967296), .int .u16 (IntKind.u16.wrap (t582)), .int .i64 (wrap64 (t583)), .int .i64 (wrap64 (t584))])]) (fun s_ w' => (w'.heap[gb580]? = some (.cells #[.int .u32 0, .int .u16 0, .int .i64 0, .int .i64 0] 49 (0, 0))) ∧ (w'.heap[s_]? = some (.cells #[.int .u32 0, .int .u16 0, .int .i64 0, .int .i64 0] 49 (0, 0))) ∧ (w.heap.size ≤ s_) ∧ (w.heap.size ≤ s_) ∧ (gb580 ≠ s_) ∧ (s_ ≠ gb580) ∧ (Below w.heap.size w w')) ?_ ?_
                      rotate_left
                      · intro hJ2_6_10_15_18
                        refine join_ (σ := Unit) 2 #[true, true, true, true, true, true, true, true, true, true, true, true, true, true, true, true, true, true, false, false] (fun s_ => [(12, .int .u64 t581), (16, .int .u64 t582), (20, .int .u64 t583), (25, .int .u64 t584), (13, .int .u32 ((t581) % 4294967296)), (17, .int .u16 (IntKind.u16.wrap (t582))), (21, .int .i64 (wrap64 (t583))), (22, .agg #[.int .u16 (IntKind.u16.wrap (t582)), .int .i64 (wrap64 (t583))]), (26, .int .i64 (wrap64 (t584))), (27, .agg #[.int .u32 ((t581) % 4294967296), .int .u16 (IntKind.u16.wrap (t582)), .int .i64 (wrap64 (t583)), .int .i64 (wrap64 (t584))])]) (fun s_ w' => (w'.heap[gb580]? = some (.cells #[.int .u32 0, .int .u16 0, .int .i64 0, .int .i64 0] 49 (0, 0))) ∧ (Below w.heap.size w w')) ?_ ?_
                        rotate_left
                        · intro hJ2_6_10_15
                          refine join_ (σ := Nat) 4 #[true, true, true, true, true, true, true, true, true, true, true, true, true, true, true, false, false, false, true, false] (fun s_ => [(12, .int .u64 t581), (16, .int .u64 t582), (20, .int .u64 t583), (4, .pointer (some ⟨s_, 0, none⟩)), (13, .int .u32 ((t581) % 4294967296)), (17, .int .u16 (IntKind.u16.wrap (t582))), (21, .int .i64 (wrap64 (t583))), (22, .agg #[.int .u16 (IntKind.u16.wrap (t582)), .int .i64 (wrap64 (t583))])]) (fun s_ w' => (w'.heap[gb580]? = some (.cells #[.int .u32 0, .int .u16 0, .int .i64 0, .int .i64 0] 49 (0, 0))) ∧ (w'.heap[s_]? = some (.cells #[.int .u32 0, .int .u16 0, .int .i64 0, .int .i64 0] 49 (0, 0))) ∧ (w.heap.size ≤ s_) ∧ (w.heap.size ≤ s_) ∧ (gb580 ≠ s_) ∧ (s_ ≠ gb580) ∧ (Below w.heap.size w w')) ?_ ?_
                          rotate_left
                          · intro hJ2_6_10_18
                            refine join_ (σ := Unit) 5 #[true, true, true, true, true, true, true, true, true, true, true, true, true, true, true, false, false, false, false, false] (fun s_ => [(12, .int .u64 t581), (16, .int .u64 t582), (20, .int .u64 t583), (13, .int .u32 ((t581) % 4294967296)), (17, .int .u16 (IntKind.u16.wrap (t582))), (21, .int .i64 (wrap64 (t583))), (22, .agg #[.int .u16 (IntKind.u16.wrap (t582)), .int .i64 (wrap64 (t583))])]) (fun s_ w' => (w'.heap[gb580]? = some (.cells #[.int .u32 0, .int .u16 0, .int .i64 0, .int .i64 0] 49 (0, 0))) ∧ (Below w.heap.size w w')) ?_ ?_
                            rotate_left
                            · intro hJ2_6_10
                              refine join_ (σ := Nat) 7 #[true, true, true, true, true, true, true, true, true, true, false, false, false, true, true, false, false, false, true, false] (fun s_ => [(12, .int .u64 t581), (16, .int .u64 t582), (4, .pointer (some ⟨s_, 0, none⟩)), (13, .int .u32 ((t581) % 4294967296)), (17, .int .u16 (IntKind.u16.wrap (t582)))]) (fun s_ w' => (w'.heap[gb580]? = some (.cells #[.int .u32 0, .int .u16 0, .int .i64 0, .int .i64 0] 49 (0, 0))) ∧ (w'.heap[s_]? = some (.cells #[.int .u32 0, .int .u16 0, .int .i64 0, .int .i64 0] 49 (0, 0))) ∧ (w.heap.size ≤ s_) ∧ (w.heap.size ≤ s_) ∧ (gb580 ≠ s_) ∧ (s_ ≠ gb580) ∧ (Below w.heap.size w w')) ?_ ?_
                              rotate_left
                              · intro hJ2_6_18
                                refine join_ (σ := Unit) 8 #[true, true, true, true, true, true, true, true, true, true, false, false, false, true, true, false, false, false, false, false] (fun s_ => [(12, .int .u64 t581), (16, .int .u64 t582), (13, .int .u32 ((t581) % 4294967296)), (17, .int .u16 (IntKind.u16.wrap (t582)))]) (fun s_ w' => (w'.heap[gb580]? = some (.cells #[.int .u32 0, .int .u16 0, .int .i64 0, .int .i64 0] 49 (0, 0))) ∧ (Below w.heap.size w w')) ?_ ?_
                                rotate_left
                                · intro hJ2_6
                                  refine join_ (σ := Nat) 9 #[true, true, true, true, true, true, false, false, true, true, false, false, false, true, true, false, false, false, true, false] (fun s_ => [(12, .int .u64 t581), (4, .pointer (some ⟨s_, 0, none⟩)), (13, .int .u32 ((t581) % 4294967296))]) (fun s_ w' => (w'.heap[gb580]? = some (.cells #[.int .u32 0, .int .u16 0, .int .i64 0, .int .i64 0] 49 (0, 0))) ∧ (w'.heap[s_]? = some (.cells #[.int .u32 0, .int .u16 0, .int .i64 0, .int .i64 0] 49 (0, 0))) ∧ (w.heap.size ≤ s_) ∧ (w.heap.size ≤ s_) ∧ (gb580 ≠ s_) ∧ (s_ ≠ gb580) ∧ (Below w.heap.size w w')) ?_ ?_
                                  rotate_left
                                  · intro hJ2_18
                                    refine join_ (σ := Unit) 10 #[true, true, true, true, true, true, false, false, true, true, false, false, false, true, true, false, false, false, false, false] (fun s_ => [(12, .int .u64 t581), (13, .int .u32 ((t581) % 4294967296))]) (fun s_ w' => (w'.heap[gb580]? = some (.cells #[.int .u32 0, .int .u16 0, .int .i64 0, .int .i64 0] 49 (0, 0))) ∧ (Below w.heap.size w w')) ?_ ?_
                                    rotate_left
                                    · intro hJ2
                                      refine join_ (σ := Nat) 11 #[true, true, false, false, true, true, false, false, true, true, false, false, false, true, true, false, false, false, true, false] (fun s_ => [(4, .pointer (some ⟨s_, 0, none⟩))]) (fun s_ w' => (w'.heap[gb580]? = some (.cells #[.int .u32 0, .int .u16 0, .int .i64 0, .int .i64 0] 49 (0, 0))) ∧ (w'.heap[s_]? = some (.cells #[.int .u32 0, .int .u16 0, .int .i64 0, .int .i64 0] 49 (0, 0))) ∧ (w.heap.size ≤ s_) ∧ (w.heap.size ≤ s_) ∧ (gb580 ≠ s_) ∧ (s_ ≠ gb580) ∧ (Below w.heap.size w w')) ?_ ?_
                                      rotate_left
                                      · intro hJ18
                                        refine two_ (i := 2) (j := 18) (Ni := some 12) (Nj := some 4) #[true, true, true, false, true, true, false, false, true, true, false, false, false, true, true, false, false, false, false, false] #[true, true, false, false, true, true, false, false, true, true, false, false, false, true, true, false, false, false, true, false] rfl rfl rfl rfl (two_of HT_.out (by kernel_rfl)) (by decide) (by decide) (fun K hK => ?_) (fun K hK => ?_)
                                        · skip
                                          refine goes_ Tryd.func46 (by kernel_rfl) rfl #[.string (a0.extract 0 4)] (by rfl) rfl rfl (by (try simp only [List.map_toArray, List.map_cons, List.map_nil]); first | done | rfl | (simp only [List.length_drop, List.length_take]; rfl)) ?_
                                          with_reducible refine (bazaarref03_Get.calls k (a0.extract 0 4) t581 _ ?side1 A5.out).mono ?_
                                          (case side1 => exact Laid_below HLD.out (by repeat (first | (with_reducible first | exact HB.out | apply below_alloc | apply pw_below_drewN | apply below_drew1 | refine below_set ?_ GE580.out) | exact HB.out)))
                                          rintro e w19 ⟨rfl, hb⟩
                                          refine ⟨_, rfl, ?_⟩
                                          have n0_ := Aside0.mk (blk_below (g := gb580) (o := .cells #[.int .u32 0, .int .u16 0, .int .i64 0, .int .i64 0] 49 (0, 0)) (by (with_reducible repeat (first | refine blk_drewN ?_ _ | refine blk_drew ?_ | refine blk_alloc ?_ _)); exact BK580.out) hb)
                                          have n1_ := Aside0.mk (below_step (by repeat (first | (with_reducible first | exact HB.out | apply below_alloc | apply pw_below_drewN | apply below_drew1 | refine below_set ?_ GE580.out) | exact HB.out)) hb)
                                          clear BK580
                                          clear HB
                                          have BK580 := n0_
                                          have HB := n1_
                                          clear n0_ n1_
                                          (try clear hb)
                                          (try clear hb2)
                                          (try clear hk)
                                          (try clear hi)
                                          refine hK.out _ _ trivial (fun hHeld => ?_)
                                          clear hK K
                                          refine norm_ (a' := ?_) ?_ ?_
                                          rotate_left
                                          · show Act.put _ (some 12) _ = _
                                            simp only [Act.put, List.setIfInBounds_toArray, List.set_cons_zero, List.set_cons_succ, i64_w, i32_w]
                                            rfl
                                          refine pure_ (i := 3) (N := some 13) (v := ?_) (a' := ?_) #[true, true, true, true, true, true, false, false, true, true, false, false, false, true, true, false, false, false, false, false] rfl rfl (any_of HT_.out (by kernel_rfl)) (fun _ _ _ h => h) (Or.inl ⟨by rfl, ?_⟩) ?_ ?_
                                          rotate_left
                                          · intro w'
                                            go_simp
                                            with_reducible rfl
                                          rotate_left
                                          · simp only [Act.put, List.setIfInBounds_toArray, List.set_cons_zero, List.set_cons_succ, i64_w, i32_w]
                                            rfl
                                          exact norm_ (by first | (simp only [putAll, Act.put, List.setIfInBounds_toArray, List.set_cons_zero, List.set_cons_succ]; done) | (simp only [putAll, Act.put, List.setIfInBounds_toArray, List.set_cons_zero, List.set_cons_succ]; rfl)) (hJ2 () _ ⟨(by (with_reducible repeat (first | refine blk_drewN ?_ _ | refine blk_drew ?_ | refine blk_alloc ?_ _)); exact BK580.out), (by repeat (first | (with_reducible first | exact HB.out | apply below_alloc | apply pw_below_drewN | apply below_drew1 | refine below_set ?_ GE580.out) | exact HB.out))⟩)
                                        · skip
                                          refine box_step ?hg (N := 4) ?hd (cs := #[.int .u32 0, .int .u16 0, .int .i64 0, .int .i64 0]) (t := 49) ?hr ?_; (case hd => rfl); (case hg => rfl); (case hr => first | (go_simp; done) | (go_simp; rfl))
                                          intro gb585 hg w19 hbox hb
                                          have n0_ := Aside0.mk (blk_below (g := gb580) (o := .cells #[.int .u32 0, .int .u16 0, .int .i64 0, .int .i64 0] 49 (0, 0)) (by (with_reducible repeat (first | refine blk_drewN ?_ _ | refine blk_drew ?_ | refine blk_alloc ?_ _)); exact BK580.out) hb)
                                          have n1_ := Aside0.mk (below_step (by repeat (first | (with_reducible first | exact HB.out | apply below_alloc | apply pw_below_drewN | apply below_drew1 | refine below_set ?_ GE580.out) | exact HB.out)) hb)
                                          have n2_ := Aside0.mk (hbox)
                                          have n3_ := Aside0.mk ((by rw [hg]; exact (below_size (by repeat (first | (with_reducible first | exact HB.out | apply below_alloc | apply pw_below_drewN | apply below_drew1 | refine below_set ?_ GE580.out) | exact HB.out))) : w.heap.size ≤ gb585))
                                          have n4_ := Aside0.mk ((by rw [hg]; exact (below_size (by repeat (first | (with_reducible first | exact HB.out | apply below_alloc | apply pw_below_drewN | apply below_drew1 | refine below_set ?_ GE580.out) | exact HB.out))) : w.heap.size ≤ gb585))
                                          have n5_ := Aside0.mk ((by rw [hg]; exact Nat.ne_of_lt (blk_lt (g := gb580) (o := .cells #[.int .u32 0, .int .u16 0, .int .i64 0, .int .i64 0] 49 (0, 0)) (by (with_reducible repeat (first | refine blk_drewN ?_ _ | refine blk_drew ?_ | refine blk_alloc ?_ _)); exact BK580.out)) : gb580 ≠ gb585))
                                          have n6_ := Aside0.mk ((by rw [hg]; exact Nat.ne_of_gt (blk_lt (g := gb580) (o := .cells #[.int .u32 0, .int .u16 0, .int .i64 0, .int .i64 0] 49 (0, 0)) (by (with_reducible repeat (first | refine blk_drewN ?_ _ | refine blk_drew ?_ | refine blk_alloc ?_ _)); exact BK580.out)) : gb585 ≠ gb580))
                                          clear BK580
                                          clear HB
                                          have BK580 := n0_
                                          have HB := n1_
                                          have BK585 := n2_
                                          have GW585 := n3_
                                          have GE585 := n4_
                                          have NB580_585 := n5_
                                          have NB585_580 := n6_
                                          clear n0_ n1_ n2_ n3_ n4_ n5_ n6_
                                          clear hb hbox hg
                                          refine hK.out _ _ trivial (fun hHeld => ?_)
                                          clear hK K
                                          refine norm_ (a' := ?_) ?_ ?_
                                          rotate_left
                                          · show Act.put _ (some 4) _ = _
                                            simp only [Act.put, List.setIfInBounds_toArray, List.set_cons_zero, List.set_cons_succ, i64_w, i32_w]
                                            rfl
                                          exact norm_ (by first | (simp only [putAll, Act.put, List.setIfInBounds_toArray, List.set_cons_zero, List.set_cons_succ]; done) | (simp only [putAll, Act.put, List.setIfInBounds_toArray, List.set_cons_zero, List.set_cons_succ]; rfl)) (hJ18 (gb585) _ ⟨(by (with_reducible repeat (first | refine blk_drewN ?_ _ | refine blk_drew ?_ | refine blk_alloc ?_ _)); exact BK580.out), (by (with_reducible repeat (first | refine blk_drewN ?_ _ | refine blk_drew ?_ | refine blk_alloc ?_ _)); exact BK585.out), GW585.out, GE585.out, NB580_585.out, NB585_580.out, (by repeat (first | (with_reducible first | exact HB.out | apply below_alloc | apply pw_below_drewN | apply below_drew1 | refine below_set ?_ GE580.out | refine below_set ?_ GE585.out) | exact HB.out))⟩)
                                      · skip
                                        rintro gb585 w20 ⟨h0_, h1_, h2_, h3_, h4_, h5_, h6_⟩
                                        have n0_ : Aside0 (w20.heap[gb580]? = some (.cells #[.int .u32 0, .int .u16 0, .int .i64 0, .int .i64 0] 49 (0, 0))) := ⟨h0_⟩
                                        have n1_ : Aside0 (w20.heap[gb585]? = some (.cells #[.int .u32 0, .int .u16 0, .int .i64 0, .int .i64 0] 49 (0, 0))) := ⟨h1_⟩
                                        have n2_ : Aside0 (w.heap.size ≤ gb585) := ⟨h2_⟩
                                        have n3_ : Aside0 (w.heap.size ≤ gb585) := ⟨h3_⟩
                                        have n4_ : Aside0 (gb580 ≠ gb585) := ⟨h4_⟩
                                        have n5_ : Aside0 (gb585 ≠ gb580) := ⟨h5_⟩
                                        have n6_ : Aside0 (Below w.heap.size w w20) := ⟨h6_⟩
                                        clear BK580
                                        clear HB
                                        clear h0_ h1_ h2_ h3_ h4_ h5_ h6_
                                        have BK580 := n0_
                                        have BK585 := n1_
                                        have GW585 := n2_
                                        have GE585 := n3_
                                        have NB580_585 := n4_
                                        have NB585_580 := n5_
                                        have HB := n6_
                                        clear n0_ n1_ n2_ n3_ n4_ n5_ n6_
                                        have hHeld := trivial
                                        refine norm_ (a' := ?_) ?_ ?_
                                        rotate_left
                                        · simp only [putAll, Act.put, List.setIfInBounds_toArray, List.set_cons_zero, List.set_cons_succ]
                                          rfl
                                        refine one_ (i := 2) (N := some 12) #[true, true, true, false, true, true, false, false, true, true, false, false, false, true, true, false, false, false, true, false] rfl rfl (one_of HT_.out (by kernel_rfl)) (by decide) (fun K hK => ?_)
                                        refine goes_ Tryd.func46 (by kernel_rfl) rfl #[.string (a0.extract 0 4)] (by rfl) rfl rfl (by (try simp only [List.map_toArray, List.map_cons, List.map_nil]); first | done | rfl | (simp only [List.length_drop, List.length_take]; rfl)) ?_
                                        with_reducible refine (bazaarref03_Get.calls k (a0.extract 0 4) t581 _ ?side1 A5.out).mono ?_
                                        (case side1 => exact Laid_below HLD.out (by repeat (first | (with_reducible first | exact HB.out | apply below_alloc | apply pw_below_drewN | apply below_drew1 | refine below_set ?_ GE580.out | refine below_set ?_ GE585.out) | exact HB.out)))
                                        rintro e w21 ⟨rfl, hb⟩
                                        refine ⟨_, rfl, ?_⟩
                                        have n0_ := Aside0.mk (blk_below (g := gb580) (o := .cells #[.int .u32 0, .int .u16 0, .int .i64 0, .int .i64 0] 49 (0, 0)) (by (with_reducible repeat (first | refine blk_drewN ?_ _ | refine blk_drew ?_ | refine blk_alloc ?_ _)); exact BK580.out) hb)
                                        have n1_ := Aside0.mk (blk_below (g := gb585) (o := .cells #[.int .u32 0, .int .u16 0, .int .i64 0, .int .i64 0] 49 (0, 0)) (by (with_reducible repeat (first | refine blk_drewN ?_ _ | refine blk_drew ?_ | refine blk_alloc ?_ _)); exact BK585.out) hb)
                                        have n2_ := Aside0.mk (below_step (by repeat (first | (with_reducible first | exact HB.out | apply below_alloc | apply pw_below_drewN | apply below_drew1 | refine below_set ?_ GE580.out | refine below_set ?_ GE585.out) | exact HB.out)) hb)
                                        clear BK580
                                        clear BK585
                                        clear HB
                                        have BK580 := n0_
                                        have BK585 := n1_
                                        have HB := n2_
                                        clear n0_ n1_ n2_
                                        (try clear hb)
                                        (try clear hb2)
                                        (try clear hk)
                                        (try clear hi)
                                        refine hK.out _ _ trivial (fun hHeld => ?_)
                                        clear hK K
                                        refine norm_ (a' := ?_) ?_ ?_
                                        rotate_left
                                        · show Act.put _ (some 12) _ = _
                                          simp only [Act.put, List.setIfInBounds_toArray, List.set_cons_zero, List.set_cons_succ, i64_w, i32_w]
                                          rfl
                                        refine pure_ (i := 3) (N := some 13) (v := ?_) (a' := ?_) #[true, true, true, true, true, true, false, false, true, true, false, false, false, true, true, false, false, false, true, false] rfl rfl (any_of HT_.out (by kernel_rfl)) (fun _ _ _ h => h) (Or.inl ⟨by rfl, ?_⟩) ?_ ?_
                                        rotate_left
                                        · intro w'
                                          go_simp
                                          with_reducible rfl
                                        rotate_left
                                        · simp only [Act.put, List.setIfInBounds_toArray, List.set_cons_zero, List.set_cons_succ, i64_w, i32_w]
                                          rfl
                                        exact norm_ (by first | (simp only [putAll, Act.put, List.setIfInBounds_toArray, List.set_cons_zero, List.set_cons_succ]; done) | (simp only [putAll, Act.put, List.setIfInBounds_toArray, List.set_cons_zero, List.set_cons_succ]; rfl)) (hJ2_18 (gb585) _ ⟨(by (with_reducible repeat (first | refine blk_drewN ?_ _ | refine blk_drew ?_ | refine blk_alloc ?_ _)); exact BK580.out), (by (with_reducible repeat (first | refine blk_drewN ?_ _ | refine blk_drew ?_ | refine blk_alloc ?_ _)); exact BK585.out), GW585.out, GE585.out, NB580_585.out, NB585_580.out, (by repeat (first | (with_reducible first | exact HB.out | apply below_alloc | apply pw_below_drewN | apply below_drew1 | refine below_set ?_ GE580.out | refine below_set ?_ GE585.out) | exact HB.out))⟩)
                                    · skip
                                      rintro _ w20 ⟨h0_, h1_⟩
                                      have n0_ : Aside0 (w20.heap[gb580]? = some (.cells #[.int .u32 0, .int .u16 0, .int .i64 0, .int .i64 0] 49 (0, 0))) := ⟨h0_⟩
                                      have n1_ : Aside0 (Below w.heap.size w w20) := ⟨h1_⟩
                                      clear BK580
                                      clear HB
                                      clear h0_ h1_
                                      have BK580 := n0_
                                      have HB := n1_
                                      clear n0_ n1_
                                      have hHeld := trivial
                                      refine norm_ (a' := ?_) ?_ ?_
                                      rotate_left
                                      · simp only [putAll, Act.put, List.setIfInBounds_toArray, List.set_cons_zero, List.set_cons_succ]
                                        rfl
                                      refine two_ (i := 6) (j := 18) (Ni := some 16) (Nj := some 4) #[true, true, true, true, true, true, true, false, true, true, false, false, false, true, true, false, false, false, false, false] #[true, true, true, true, true, true, false, false, true, true, false, false, false, true, true, false, false, false, true, false] rfl rfl rfl rfl (two_of HT_.out (by kernel_rfl)) (by decide) (by decide) (fun K hK => ?_) (fun K hK => ?_)
                                      · skip
                                        refine goes_ Tryd.func46 (by kernel_rfl) rfl #[.string (a0.extract 4 6)] (by rfl) rfl rfl (by (try simp only [List.map_toArray, List.map_cons, List.map_nil]); first | done | rfl | (simp only [List.length_drop, List.length_take]; rfl)) ?_
                                        with_reducible refine (bazaarref03_Get.calls k (a0.extract 4 6) t582 _ ?side1 A8.out).mono ?_
                                        (case side1 => exact Laid_below HLD.out (by repeat (first | (with_reducible first | exact HB.out | apply below_alloc | apply pw_below_drewN | apply below_drew1 | refine below_set ?_ GE580.out) | exact HB.out)))
                                        rintro e w21 ⟨rfl, hb⟩
                                        refine ⟨_, rfl, ?_⟩
                                        have n0_ := Aside0.mk (blk_below (g := gb580) (o := .cells #[.int .u32 0, .int .u16 0, .int .i64 0, .int .i64 0] 49 (0, 0)) (by (with_reducible repeat (first | refine blk_drewN ?_ _ | refine blk_drew ?_ | refine blk_alloc ?_ _)); exact BK580.out) hb)
                                        have n1_ := Aside0.mk (below_step (by repeat (first | (with_reducible first | exact HB.out | apply below_alloc | apply pw_below_drewN | apply below_drew1 | refine below_set ?_ GE580.out) | exact HB.out)) hb)
                                        clear BK580
                                        clear HB
                                        have BK580 := n0_
                                        have HB := n1_
                                        clear n0_ n1_
                                        (try clear hb)
                                        (try clear hb2)
                                        (try clear hk)
                                        (try clear hi)
                                        refine hK.out _ _ trivial (fun hHeld => ?_)
                                        clear hK K
                                        refine norm_ (a' := ?_) ?_ ?_
                                        rotate_left
                                        · show Act.put _ (some 16) _ = _
                                          simp only [Act.put, List.setIfInBounds_toArray, List.set_cons_zero, List.set_cons_succ, i64_w, i32_w]
                                          rfl
                                        refine pure_ (i := 7) (N := some 17) (v := ?_) (a' := ?_) #[true, true, true, true, true, true, true, true, true, true, false, false, false, true, true, false, false, false, false, false] rfl rfl (any_of HT_.out (by kernel_rfl)) (fun _ _ _ h => h) (Or.inl ⟨by rfl, ?_⟩) ?_ ?_
                                        rotate_left
                                        · intro w'
                                          go_simp
                                          with_reducible rfl
                                        rotate_left
                                        · simp only [Act.put, List.setIfInBounds_toArray, List.set_cons_zero, List.set_cons_succ, i64_w, i32_w]
                                          rfl
                                        exact norm_ (by first | (simp only [putAll, Act.put, List.setIfInBounds_toArray, List.set_cons_zero, List.set_cons_succ]; done) | (simp only [putAll, Act.put, List.setIfInBounds_toArray, List.set_cons_zero, List.set_cons_succ]; rfl)) (hJ2_6 () _ ⟨(by (with_reducible repeat (first | refine blk_drewN ?_ _ | refine blk_drew ?_ | refine blk_alloc ?_ _)); exact BK580.out), (by repeat (first | (with_reducible first | exact HB.out | apply below_alloc | apply pw_below_drewN | apply below_drew1 | refine below_set ?_ GE580.out) | exact HB.out))⟩)
                                      · skip
                                        refine box_step ?hg (N := 4) ?hd (cs := #[.int .u32 0, .int .u16 0, .int .i64 0, .int .i64 0]) (t := 49) ?hr ?_; (case hd => rfl); (case hg => rfl); (case hr => first | (go_simp; done) | (go_simp; rfl))
                                        intro gb585 hg w21 hbox hb
                                        have n0_ := Aside0.mk (blk_below (g := gb580) (o := .cells #[.int .u32 0, .int .u16 0, .int .i64 0, .int .i64 0] 49 (0, 0)) (by (with_reducible repeat (first | refine blk_drewN ?_ _ | refine blk_drew ?_ | refine blk_alloc ?_ _)); exact BK580.out) hb)
                                        have n1_ := Aside0.mk (below_step (by repeat (first | (with_reducible first | exact HB.out | apply below_alloc | apply pw_below_drewN | apply below_drew1 | refine below_set ?_ GE580.out) | exact HB.out)) hb)
                                        have n2_ := Aside0.mk (hbox)
                                        have n3_ := Aside0.mk ((by rw [hg]; exact (below_size (by repeat (first | (with_reducible first | exact HB.out | apply below_alloc | apply pw_below_drewN | apply below_drew1 | refine below_set ?_ GE580.out) | exact HB.out))) : w.heap.size ≤ gb585))
                                        have n4_ := Aside0.mk ((by rw [hg]; exact (below_size (by repeat (first | (with_reducible first | exact HB.out | apply below_alloc | apply pw_below_drewN | apply below_drew1 | refine below_set ?_ GE580.out) | exact HB.out))) : w.heap.size ≤ gb585))
                                        have n5_ := Aside0.mk ((by rw [hg]; exact Nat.ne_of_lt (blk_lt (g := gb580) (o := .cells #[.int .u32 0, .int .u16 0, .int .i64 0, .int .i64 0] 49 (0, 0)) (by (with_reducible repeat (first | refine blk_drewN ?_ _ | refine blk_drew ?_ | refine blk_alloc ?_ _)); exact BK580.out)) : gb580 ≠ gb585))
                                        have n6_ := Aside0.mk ((by rw [hg]; exact Nat.ne_of_gt (blk_lt (g := gb580) (o := .cells #[.int .u32 0, .int .u16 0, .int .i64 0, .int .i64 0] 49 (0, 0)) (by (with_reducible repeat (first | refine blk_drewN ?_ _ | refine blk_drew ?_ | refine blk_alloc ?_ _)); exact BK580.out)) : gb585 ≠ gb580))
                                        clear BK580
                                        clear HB
                                        have BK580 := n0_
                                        have HB := n1_
                                        have BK585 := n2_
                                        have GW585 := n3_
                                        have GE585 := n4_
                                        have NB580_585 := n5_
                                        have NB585_580 := n6_
                                        clear n0_ n1_ n2_ n3_ n4_ n5_ n6_
                                        clear hb hbox hg
                                        refine hK.out _ _ trivial (fun hHeld => ?_)
                                        clear hK K
                                        refine norm_ (a' := ?_) ?_ ?_
                                        rotate_left
                                        · show Act.put _ (some 4) _ = _
                                          simp only [Act.put, List.setIfInBounds_toArray, List.set_cons_zero, List.set_cons_succ, i64_w, i32_w]
                                          rfl
                                        exact norm_ (by first | (simp only [putAll, Act.put, List.setIfInBounds_toArray, List.set_cons_zero, List.set_cons_succ]; done) | (simp only [putAll, Act.put, List.setIfInBounds_toArray, List.set_cons_zero, List.set_cons_succ]; rfl)) (hJ2_18 (gb585) _ ⟨(by (with_reducible repeat (first | refine blk_drewN ?_ _ | refine blk_drew ?_ | refine blk_alloc ?_ _)); exact BK580.out), (by (with_reducible repeat (first | refine blk_drewN ?_ _ | refine blk_drew ?_ | refine blk_alloc ?_ _)); exact BK585.out), GW585.out, GE585.out, NB580_585.out, NB585_580.out, (by repeat (first | (with_reducible first | exact HB.out | apply below_alloc | apply pw_below_drewN | apply below_drew1 | refine below_set ?_ GE580.out | refine below_set ?_ GE585.out) | exact HB.out))⟩)
                                  · skip
                                    rintro gb585 w21 ⟨h0_, h1_, h2_, h3_, h4_, h5_, h6_⟩
                                    have n0_ : Aside0 (w21.heap[gb580]? = some (.cells #[.int .u32 0, .int .u16 0, .int .i64 0, .int .i64 0] 49 (0, 0))) := ⟨h0_⟩
                                    have n1_ : Aside0 (w21.heap[gb585]? = some (.cells #[.int .u32 0, .int .u16 0, .int .i64 0, .int .i64 0] 49 (0, 0))) := ⟨h1_⟩
                                    have n2_ : Aside0 (w.heap.size ≤ gb585) := ⟨h2_⟩
                                    have n3_ : Aside0 (w.heap.size ≤ gb585) := ⟨h3_⟩
                                    have n4_ : Aside0 (gb580 ≠ gb585) := ⟨h4_⟩
                                    have n5_ : Aside0 (gb585 ≠ gb580) := ⟨h5_⟩
                                    have n6_ : Aside0 (Below w.heap.size w w21) := ⟨h6_⟩
                                    clear BK580
                                    clear HB
                                    clear h0_ h1_ h2_ h3_ h4_ h5_ h6_
                                    have BK580 := n0_
                                    have BK585 := n1_
                                    have GW585 := n2_
                                    have GE585 := n3_
                                    have NB580_585 := n4_
                                    have NB585_580 := n5_
                                    have HB := n6_
                                    clear n0_ n1_ n2_ n3_ n4_ n5_ n6_
                                    have hHeld := trivial
                                    refine norm_ (a' := ?_) ?_ ?_
                                    rotate_left
                                    · simp only [putAll, Act.put, List.setIfInBounds_toArray, List.set_cons_zero, List.set_cons_succ]
                                      rfl
                                    refine one_ (i := 6) (N := some 16) #[true, true, true, true, true, true, true, false, true, true, false, false, false, true, true, false, false, false, true, false] rfl rfl (one_of HT_.out (by kernel_rfl)) (by decide) (fun K hK => ?_)
                                    refine goes_ Tryd.func46 (by kernel_rfl) rfl #[.string (a0.extract 4 6)] (by rfl) rfl rfl (by (try simp only [List.map_toArray, List.map_cons, List.map_nil]); first | done | rfl | (simp only [List.length_drop, List.length_take]; rfl)) ?_
                                    with_reducible refine (bazaarref03_Get.calls k (a0.extract 4 6) t582 _ ?side1 A8.out).mono ?_
                                    (case side1 => exact Laid_below HLD.out (by repeat (first | (with_reducible first | exact HB.out | apply below_alloc | apply pw_below_drewN | apply below_drew1 | refine below_set ?_ GE580.out | refine below_set ?_ GE585.out) | exact HB.out)))
                                    rintro e w22 ⟨rfl, hb⟩
                                    refine ⟨_, rfl, ?_⟩
                                    have n0_ := Aside0.mk (blk_below (g := gb580) (o := .cells #[.int .u32 0, .int .u16 0, .int .i64 0, .int .i64 0] 49 (0, 0)) (by (with_reducible repeat (first | refine blk_drewN ?_ _ | refine blk_drew ?_ | refine blk_alloc ?_ _)); exact BK580.out) hb)
                                    have n1_ := Aside0.mk (blk_below (g := gb585) (o := .cells #[.int .u32 0, .int .u16 0, .int .i64 0, .int .i64 0] 49 (0, 0)) (by (with_reducible repeat (first | refine blk_drewN ?_ _ | refine blk_drew ?_ | refine blk_alloc ?_ _)); exact BK585.out) hb)
                                    have n2_ := Aside0.mk (below_step (by repeat (first | (with_reducible first | exact HB.out | apply below_alloc | apply pw_below_drewN | apply below_drew1 | refine below_set ?_ GE580.out | refine below_set ?_ GE585.out) | exact HB.out)) hb)
                                    clear BK580
                                    clear BK585
                                    clear HB
                                    have BK580 := n0_
                                    have BK585 := n1_
                                    have HB := n2_
                                    clear n0_ n1_ n2_
                                    (try clear hb)
                                    (try clear hb2)
                                    (try clear hk)
                                    (try clear hi)
                                    refine hK.out _ _ trivial (fun hHeld => ?_)
                                    clear hK K
                                    refine norm_ (a' := ?_) ?_ ?_
                                    rotate_left
                                    · show Act.put _ (some 16) _ = _
                                      simp only [Act.put, List.setIfInBounds_toArray, List.set_cons_zero, List.set_cons_succ, i64_w, i32_w]
                                      rfl
                                    refine pure_ (i := 7) (N := some 17) (v := ?_) (a' := ?_) #[true, true, true, true, true, true, true, true, true, true, false, false, false, true, true, false, false, false, true, false] rfl rfl (any_of HT_.out (by kernel_rfl)) (fun _ _ _ h => h) (Or.inl ⟨by rfl, ?_⟩) ?_ ?_
                                    rotate_left
                                    · intro w'
                                      go_simp
                                      with_reducible rfl
                                    rotate_left
                                    · simp only [Act.put, List.setIfInBounds_toArray, List.set_cons_zero, List.set_cons_succ, i64_w, i32_w]
                                      rfl
                                    exact norm_ (by first | (simp only [putAll, Act.put, List.setIfInBounds_toArray, List.set_cons_zero, List.set_cons_succ]; done) | (simp only [putAll, Act.put, List.setIfInBounds_toArray, List.set_cons_zero, List.set_cons_succ]; rfl)) (hJ2_6_18 (gb585) _ ⟨(by (with_reducible repeat (first | refine blk_drewN ?_ _ | refine blk_drew ?_ | refine blk_alloc ?_ _)); exact BK580.out), (by (with_reducible repeat (first | refine blk_drewN ?_ _ | refine blk_drew ?_ | refine blk_alloc ?_ _)); exact BK585.out), GW585.out, GE585.out, NB580_585.out, NB585_580.out, (by repeat (first | (with_reducible first | exact HB.out | apply below_alloc | apply pw_below_drewN | apply below_drew1 | refine below_set ?_ GE580.out | refine below_set ?_ GE585.out) | exact HB.out))⟩)
                                · skip
                                  rintro _ w21 ⟨h0_, h1_⟩
                                  have n0_ : Aside0 (w21.heap[gb580]? = some (.cells #[.int .u32 0, .int .u16 0, .int .i64 0, .int .i64 0] 49 (0, 0))) := ⟨h0_⟩
                                  have n1_ : Aside0 (Below w.heap.size w w21) := ⟨h1_⟩
                                  clear BK580
                                  clear HB
                                  clear h0_ h1_
                                  have BK580 := n0_
                                  have HB := n1_
                                  clear n0_ n1_
                                  have hHeld := trivial
                                  refine norm_ (a' := ?_) ?_ ?_
                                  rotate_left
                                  · simp only [putAll, Act.put, List.setIfInBounds_toArray, List.set_cons_zero, List.set_cons_succ]
                                    rfl
                                  refine two_ (i := 10) (j := 18) (Ni := some 20) (Nj := some 4) #[true, true, true, true, true, true, true, true, true, true, true, false, false, true, true, false, false, false, false, false] #[true, true, true, true, true, true, true, true, true, true, false, false, false, true, true, false, false, false, true, false] rfl rfl rfl rfl (two_of HT_.out (by kernel_rfl)) (by decide) (by decide) (fun K hK => ?_) (fun K hK => ?_)
                                  · skip
                                    refine goes_ Tryd.func46 (by kernel_rfl) rfl #[.string (a0.extract 6 14)] (by rfl) rfl rfl (by (try simp only [List.map_toArray, List.map_cons, List.map_nil]); first | done | rfl | (simp only [List.length_drop, List.length_take]; rfl)) ?_
                                    with_reducible refine (bazaarref03_Get.calls k (a0.extract 6 14) t583 _ ?side1 A11.out).mono ?_
                                    (case side1 => exact Laid_below HLD.out (by repeat (first | (with_reducible first | exact HB.out | apply below_alloc | apply pw_below_drewN | apply below_drew1 | refine below_set ?_ GE580.out) | exact HB.out)))
                                    rintro e w22 ⟨rfl, hb⟩
                                    refine ⟨_, rfl, ?_⟩
                                    have n0_ := Aside0.mk (blk_below (g := gb580) (o := .cells #[.int .u32 0, .int .u16 0, .int .i64 0, .int .i64 0] 49 (0, 0)) (by (with_reducible repeat (first | refine blk_drewN ?_ _ | refine blk_drew ?_ | refine blk_alloc ?_ _)); exact BK580.out) hb)
                                    have n1_ := Aside0.mk (below_step (by repeat (first | (with_reducible first | exact HB.out | apply below_alloc | apply pw_below_drewN | apply below_drew1 | refine below_set ?_ GE580.out) | exact HB.out)) hb)
                                    clear BK580
                                    clear HB
                                    have BK580 := n0_
                                    have HB := n1_
                                    clear n0_ n1_
                                    (try clear hb)
                                    (try clear hb2)
                                    (try clear hk)
                                    (try clear hi)
                                    refine hK.out _ _ trivial (fun hHeld => ?_)
                                    clear hK K
                                    refine norm_ (a' := ?_) ?_ ?_
                                    rotate_left
                                    · show Act.put _ (some 20) _ = _
                                      simp only [Act.put, List.setIfInBounds_toArray, List.set_cons_zero, List.set_cons_succ, i64_w, i32_w]
                                      rfl
                                    refine pure_ (i := 11) (N := some 21) (v := ?_) (a' := ?_) #[true, true, true, true, true, true, true, true, true, true, true, true, false, true, true, false, false, false, false, false] rfl rfl (any_of HT_.out (by kernel_rfl)) (fun _ _ _ h => h) (Or.inl ⟨by rfl, ?_⟩) ?_ ?_
                                    rotate_left
                                    · intro w'
                                      go_simp
                                      with_reducible rfl
                                    rotate_left
                                    · simp only [Act.put, List.setIfInBounds_toArray, List.set_cons_zero, List.set_cons_succ, i64_w, i32_w]
                                      rfl
                                    refine pure_ (i := 12) (N := some 22) (v := ?_) (a' := ?_) #[true, true, true, true, true, true, true, true, true, true, true, true, true, true, true, false, false, false, false, false] rfl rfl (any_of HT_.out (by kernel_rfl)) (fun _ _ _ h => h) (Or.inl ⟨by rfl, ?_⟩) ?_ ?_
                                    rotate_left
                                    · intro w'
                                      go_simp
                                      with_reducible rfl
                                    rotate_left
                                    · simp only [Act.put, List.setIfInBounds_toArray, List.set_cons_zero, List.set_cons_succ, i64_w, i32_w]
                                      rfl
                                    exact norm_ (by first | (simp only [putAll, Act.put, List.setIfInBounds_toArray, List.set_cons_zero, List.set_cons_succ]; done) | (simp only [putAll, Act.put, List.setIfInBounds_toArray, List.set_cons_zero, List.set_cons_succ]; rfl)) (hJ2_6_10 () _ ⟨(by (with_reducible repeat (first | refine blk_drewN ?_ _ | refine blk_drew ?_ | refine blk_alloc ?_ _)); exact BK580.out), (by repeat (first | (with_reducible first | exact HB.out | apply below_alloc | apply pw_below_drewN | apply below_drew1 | refine below_set ?_ GE580.out) | exact HB.out))⟩)
                                  · skip
                                    refine box_step ?hg (N := 4) ?hd (cs := #[.int .u32 0, .int .u16 0, .int .i64 0, .int .i64 0]) (t := 49) ?hr ?_; (case hd => rfl); (case hg => rfl); (case hr => first | (go_simp; done) | (go_simp; rfl))
                                    intro gb585 hg w22 hbox hb
                                    have n0_ := Aside0.mk (blk_below (g := gb580) (o := .cells #[.int .u32 0, .int .u16 0, .int .i64 0, .int .i64 0] 49 (0, 0)) (by (with_reducible repeat (first | refine blk_drewN ?_ _ | refine blk_drew ?_ | refine blk_alloc ?_ _)); exact BK580.out) hb)
                                    have n1_ := Aside0.mk (below_step (by repeat (first | (with_reducible first | exact HB.out | apply below_alloc | apply pw_below_drewN | apply below_drew1 | refine below_set ?_ GE580.out) | exact HB.out)) hb)
                                    have n2_ := Aside0.mk (hbox)
                                    have n3_ := Aside0.mk ((by rw [hg]; exact (below_size (by repeat (first | (with_reducible first | exact HB.out | apply below_alloc | apply pw_below_drewN | apply below_drew1 | refine below_set ?_ GE580.out) | exact HB.out))) : w.heap.size ≤ gb585))
                                    have n4_ := Aside0.mk ((by rw [hg]; exact (below_size (by repeat (first | (with_reducible first | exact HB.out | apply below_alloc | apply pw_below_drewN | apply below_drew1 | refine below_set ?_ GE580.out) | exact HB.out))) : w.heap.size ≤ gb585))
                                    have n5_ := Aside0.mk ((by rw [hg]; exact Nat.ne_of_lt (blk_lt (g := gb580) (o := .cells #[.int .u32 0, .int .u16 0, .int .i64 0, .int .i64 0] 49 (0, 0)) (by (with_reducible repeat (first | refine blk_drewN ?_ _ | refine blk_drew ?_ | refine blk_alloc ?_ _)); exact BK580.out)) : gb580 ≠ gb585))
                                    have n6_ := Aside0.mk ((by rw [hg]; exact Nat.ne_of_gt (blk_lt (g := gb580) (o := .cells #[.int .u32 0, .int .u16 0, .int .i64 0, .int .i64 0] 49 (0, 0)) (by (with_reducible repeat (first | refine blk_drewN ?_ _ | refine blk_drew ?_ | refine blk_alloc ?_ _)); exact BK580.out)) : gb585 ≠ gb580))
                                    clear BK580
                                    clear HB
                                    have BK580 := n0_
                                    have HB := n1_
                                    have BK585 := n2_
                                    have GW585 := n3_
                                    have GE585 := n4_
                                    have NB580_585 := n5_
                                    have NB585_580 := n6_
                                    clear n0_ n1_ n2_ n3_ n4_ n5_ n6_
                                    clear hb hbox hg
                                    refine hK.out _ _ trivial (fun hHeld => ?_)
                                    clear hK K
                                    refine norm_ (a' := ?_) ?_ ?_
                                    rotate_left
                                    · show Act.put _ (some 4) _ = _
                                      simp only [Act.put, List.setIfInBounds_toArray, List.set_cons_zero, List.set_cons_succ, i64_w, i32_w]
                                      rfl
                                    exact norm_ (by first | (simp only [putAll, Act.put, List.setIfInBounds_toArray, List.set_cons_zero, List.set_cons_succ]; done) | (simp only [putAll, Act.put, List.setIfInBounds_toArray, List.set_cons_zero, List.set_cons_succ]; rfl)) (hJ2_6_18 (gb585) _ ⟨(by (with_reducible repeat (first | refine blk_drewN ?_ _ | refine blk_drew ?_ | refine blk_alloc ?_ _)); exact BK580.out), (by (with_reducible repeat (first | refine blk_drewN ?_ _ | refine blk_drew ?_ | refine blk_alloc ?_ _)); exact BK585.out), GW585.out, GE585.out, NB580_585.out, NB585_580.out, (by repeat (first | (with_reducible first | exact HB.out | apply below_alloc | apply pw_below_drewN | apply below_drew1 | refine below_set ?_ GE580.out | refine below_set ?_ GE585.out) | exact HB.out))⟩)
                              · skip
                                rintro gb585 w22 ⟨h0_, h1_, h2_, h3_, h4_, h5_, h6_⟩
                                have n0_ : Aside0 (w22.heap[gb580]? = some (.cells #[.int .u32 0, .int .u16 0, .int .i64 0, .int .i64 0] 49 (0, 0))) := ⟨h0_⟩
                                have n1_ : Aside0 (w22.heap[gb585]? = some (.cells #[.int .u32 0, .int .u16 0, .int .i64 0, .int .i64 0] 49 (0, 0))) := ⟨h1_⟩
                                have n2_ : Aside0 (w.heap.size ≤ gb585) := ⟨h2_⟩
                                have n3_ : Aside0 (w.heap.size ≤ gb585) := ⟨h3_⟩
                                have n4_ : Aside0 (gb580 ≠ gb585) := ⟨h4_⟩
                                have n5_ : Aside0 (gb585 ≠ gb580) := ⟨h5_⟩
                                have n6_ : Aside0 (Below w.heap.size w w22) := ⟨h6_⟩
                                clear BK580
                                clear HB
                                clear h0_ h1_ h2_ h3_ h4_ h5_ h6_
                                have BK580 := n0_
                                have BK585 := n1_
                                have GW585 := n2_
                                have GE585 := n3_
                                have NB580_585 := n4_
                                have NB585_580 := n5_
                                have HB := n6_
                                clear n0_ n1_ n2_ n3_ n4_ n5_ n6_
                                have hHeld := trivial
                                refine norm_ (a' := ?_) ?_ ?_
                                rotate_left
                                · simp only [putAll, Act.put, List.setIfInBounds_toArray, List.set_cons_zero, List.set_cons_succ]
                                  rfl
                                refine one_ (i := 10) (N := some 20) #[true, true, true, true, true, true, true, true, true, true, true, false, false, true, true, false, false, false, true, false] rfl rfl (one_of HT_.out (by kernel_rfl)) (by decide) (fun K hK => ?_)
                                refine goes_ Tryd.func46 (by kernel_rfl) rfl #[.string (a0.extract 6 14)] (by rfl) rfl rfl (by (try simp only [List.map_toArray, List.map_cons, List.map_nil]); first | done | rfl | (simp only [List.length_drop, List.length_take]; rfl)) ?_
                                with_reducible refine (bazaarref03_Get.calls k (a0.extract 6 14) t583 _ ?side1 A11.out).mono ?_
                                (case side1 => exact Laid_below HLD.out (by repeat (first | (with_reducible first | exact HB.out | apply below_alloc | apply pw_below_drewN | apply below_drew1 | refine below_set ?_ GE580.out | refine below_set ?_ GE585.out) | exact HB.out)))
                                rintro e w23 ⟨rfl, hb⟩
                                refine ⟨_, rfl, ?_⟩
                                have n0_ := Aside0.mk (blk_below (g := gb580) (o := .cells #[.int .u32 0, .int .u16 0, .int .i64 0, .int .i64 0] 49 (0, 0)) (by (with_reducible repeat (first | refine blk_drewN ?_ _ | refine blk_drew ?_ | refine blk_alloc ?_ _)); exact BK580.out) hb)
                                have n1_ := Aside0.mk (blk_below (g := gb585) (o := .cells #[.int .u32 0, .int .u16 0, .int .i64 0, .int .i64 0] 49 (0, 0)) (by (with_reducible repeat (first | refine blk_drewN ?_ _ | refine blk_drew ?_ | refine blk_alloc ?_ _)); exact BK585.out) hb)
                                have n2_ := Aside0.mk (below_step (by repeat (first | (with_reducible first | exact HB.out | apply below_alloc | apply pw_below_drewN | apply below_drew1 | refine below_set ?_ GE580.out | refine below_set ?_ GE585.out) | exact HB.out)) hb)
                                clear BK580
                                clear BK585
                                clear HB
                                have BK580 := n0_
                                have BK585 := n1_
                                have HB := n2_
                                clear n0_ n1_ n2_
                                (try clear hb)
                                (try clear hb2)
                                (try clear hk)
                                (try clear hi)
                                refine hK.out _ _ trivial (fun hHeld => ?_)
                                clear hK K
                                refine norm_ (a' := ?_) ?_ ?_
                                rotate_left
                                · show Act.put _ (some 20) _ = _
                                  simp only [Act.put, List.setIfInBounds_toArray, List.set_cons_zero, List.set_cons_succ, i64_w, i32_w]
                                  rfl
                                refine pure_ (i := 11) (N := some 21) (v := ?_) (a' := ?_) #[true, true, true, true, true, true, true, true, true, true, true, true, false, true, true, false, false, false, true, false] rfl rfl (any_of HT_.out (by kernel_rfl)) (fun _ _ _ h => h) (Or.inl ⟨by rfl, ?_⟩) ?_ ?_
                                rotate_left
                                · intro w'
                                  go_simp
                                  with_reducible rfl
                                rotate_left
                                · simp only [Act.put, List.setIfInBounds_toArray, List.set_cons_zero, List.set_cons_succ, i64_w, i32_w]
                                  rfl
                                refine pure_ (i := 12) (N := some 22) (v := ?_) (a' := ?_) #[true, true, true, true, true, true, true, true, true, true, true, true, true, true, true, false, false, false, true, false] rfl rfl (any_of HT_.out (by kernel_rfl)) (fun _ _ _ h => h) (Or.inl ⟨by rfl, ?_⟩) ?_ ?_
                                rotate_left
                                · intro w'
                                  go_simp
                                  with_reducible rfl
                                rotate_left
                                · simp only [Act.put, List.setIfInBounds_toArray, List.set_cons_zero, List.set_cons_succ, i64_w, i32_w]
                                  rfl
                                exact norm_ (by first | (simp only [putAll, Act.put, List.setIfInBounds_toArray, List.set_cons_zero, List.set_cons_succ]; done) | (simp only [putAll, Act.put, List.setIfInBounds_toArray, List.set_cons_zero, List.set_cons_succ]; rfl)) (hJ2_6_10_18 (gb585) _ ⟨(by (with_reducible repeat (first | refine blk_drewN ?_ _ | refine blk_drew ?_ | refine blk_alloc ?_ _)); exact BK580.out), (by (with_reducible repeat (first | refine blk_drewN ?_ _ | refine blk_drew ?_ | refine blk_alloc ?_ _)); exact BK585.out), GW585.out, GE585.out, NB580_585.out, NB585_580.out, (by repeat (first | (with_reducible first | exact HB.out | apply below_alloc | apply pw_below_drewN | apply below_drew1 | refine below_set ?_ GE580.out | refine below_set ?_ GE585.out) | exact HB.out))⟩)
                            · skip
                              rintro _ w22 ⟨h0_, h1_⟩
                              have n0_ : Aside0 (w22.heap[gb580]? = some (.cells #[.int .u32 0, .int .u16 0, .int .i64 0, .int .i64 0] 49 (0, 0))) := ⟨h0_⟩
                              have n1_ : Aside0 (Below w.heap.size w w22) := ⟨h1_⟩
                              clear BK580
                              clear HB
                              clear h0_ h1_
                              have BK580 := n0_
                              have HB := n1_
                              clear n0_ n1_
                              have hHeld := trivial
                              refine norm_ (a' := ?_) ?_ ?_
                              rotate_left
                              · simp only [putAll, Act.put, List.setIfInBounds_toArray, List.set_cons_zero, List.set_cons_succ]
                                rfl
                              refine two_ (i := 15) (j := 18) (Ni := some 25) (Nj := some 4) #[true, true, true, true, true, true, true, true, true, true, true, true, true, true, true, true, false, false, false, false] #[true, true, true, true, true, true, true, true, true, true, true, true, true, true, true, false, false, false, true, false] rfl rfl rfl rfl (two_of HT_.out (by kernel_rfl)) (by decide) (by decide) (fun K hK => ?_) (fun K hK => ?_)
                              · skip
                                refine goes_ Tryd.func46 (by kernel_rfl) rfl #[.string (a0.extract 14 22)] (by rfl) rfl rfl (by (try simp only [List.map_toArray, List.map_cons, List.map_nil]); first | done | rfl | (simp only [List.length_drop, List.length_take]; rfl)) ?_
                                with_reducible refine (bazaarref03_Get.calls k (a0.extract 14 22) t584 _ ?side1 A14.out).mono ?_
                                (case side1 => exact Laid_below HLD.out (by repeat (first | (with_reducible first | exact HB.out | apply below_alloc | apply pw_below_drewN | apply below_drew1 | refine below_set ?_ GE580.out) | exact HB.out)))
                                rintro e w23 ⟨rfl, hb⟩
                                refine ⟨_, rfl, ?_⟩
                                have n0_ := Aside0.mk (blk_below (g := gb580) (o := .cells #[.int .u32 0, .int .u16 0, .int .i64 0, .int .i64 0] 49 (0, 0)) (by (with_reducible repeat (first | refine blk_drewN ?_ _ | refine blk_drew ?_ | refine blk_alloc ?_ _)); exact BK580.out) hb)
                                have n1_ := Aside0.mk (below_step (by repeat (first | (with_reducible first | exact HB.out | apply below_alloc | apply pw_below_drewN | apply below_drew1 | refine below_set ?_ GE580.out) | exact HB.out)) hb)
                                clear BK580
                                clear HB
                                have BK580 := n0_
                                have HB := n1_
                                clear n0_ n1_
                                (try clear hb)
                                (try clear hb2)
                                (try clear hk)
                                (try clear hi)
                                refine hK.out _ _ trivial (fun hHeld => ?_)
                                clear hK K
                                refine norm_ (a' := ?_) ?_ ?_
                                rotate_left
                                · show Act.put _ (some 25) _ = _
                                  simp only [Act.put, List.setIfInBounds_toArray, List.set_cons_zero, List.set_cons_succ, i64_w, i32_w]
                                  rfl
                                refine pure_ (i := 16) (N := some 26) (v := ?_) (a' := ?_) #[true, true, true, true, true, true, true, true, true, true, true, true, true, true, true, true, true, false, false, false] rfl rfl (any_of HT_.out (by kernel_rfl)) (fun _ _ _ h => h) (Or.inl ⟨by rfl, ?_⟩) ?_ ?_
                                rotate_left
                                · intro w'
                                  go_simp
                                  with_reducible rfl
                                rotate_left
                                · simp only [Act.put, List.setIfInBounds_toArray, List.set_cons_zero, List.set_cons_succ, i64_w, i32_w]
                                  rfl
                                refine pure_ (i := 17) (N := some 27) (v := ?_) (a' := ?_) #[true, true, true, true, true, true, true, true, true, true, true, true, true, true, true, true, true, true, false, false] rfl rfl (any_of HT_.out (by kernel_rfl)) (fun _ _ _ h => h) (Or.inl ⟨by rfl, ?_⟩) ?_ ?_
                                rotate_left
                                · intro w'
                                  go_simp
                                  with_reducible rfl
                                rotate_left
                                · simp only [Act.put, List.setIfInBounds_toArray, List.set_cons_zero, List.set_cons_succ, i64_w, i32_w]
                                  rfl
                                exact norm_ (by first | (simp only [putAll, Act.put, List.setIfInBounds_toArray, List.set_cons_zero, List.set_cons_succ]; done) | (simp only [putAll, Act.put, List.setIfInBounds_toArray, List.set_cons_zero, List.set_cons_succ]; rfl)) (hJ2_6_10_15 () _ ⟨(by (with_reducible repeat (first | refine blk_drewN ?_ _ | refine blk_drew ?_ | refine blk_alloc ?_ _)); exact BK580.out), (by repeat (first | (with_reducible first | exact HB.out | apply below_alloc | apply pw_below_drewN | apply below_drew1 | refine below_set ?_ GE580.out) | exact HB.out))⟩)
                              · skip
                                refine box_step ?hg (N := 4) ?hd (cs := #[.int .u32 0, .int .u16 0, .int .i64 0, .int .i64 0]) (t := 49) ?hr ?_; (case hd => rfl); (case hg => rfl); (case hr => first | (go_simp; done) | (go_simp; rfl))
                                intro gb585 hg w23 hbox hb
                                have n0_ := Aside0.mk (blk_below (g := gb580) (o := .cells #[.int .u32 0, .int .u16 0, .int .i64 0, .int .i64 0] 49 (0, 0)) (by (with_reducible repeat (first | refine blk_drewN ?_ _ | refine blk_drew ?_ | refine blk_alloc ?_ _)); exact BK580.out) hb)
                                have n1_ := Aside0.mk (below_step (by repeat (first | (with_reducible first | exact HB.out | apply below_alloc | apply pw_below_drewN | apply below_drew1 | refine below_set ?_ GE580.out) | exact HB.out)) hb)
                                have n2_ := Aside0.mk (hbox)
                                have n3_ := Aside0.mk ((by rw [hg]; exact (below_size (by repeat (first | (with_reducible first | exact HB.out | apply below_alloc | apply pw_below_drewN | apply below_drew1 | refine below_set ?_ GE580.out) | exact HB.out))) : w.heap.size ≤ gb585))
                                have n4_ := Aside0.mk ((by rw [hg]; exact (below_size (by repeat (first | (with_reducible first | exact HB.out | apply below_alloc | apply pw_below_drewN | apply below_drew1 | refine below_set ?_ GE580.out) | exact HB.out))) : w.heap.size ≤ gb585))
                                have n5_ := Aside0.mk ((by rw [hg]; exact Nat.ne_of_lt (blk_lt (g := gb580) (o := .cells #[.int .u32 0, .int .u16 0, .int .i64 0, .int .i64 0] 49 (0, 0)) (by (with_reducible repeat (first | refine blk_drewN ?_ _ | refine blk_drew ?_ | refine blk_alloc ?_ _)); exact BK580.out)) : gb580 ≠ gb585))
                                have n6_ := Aside0.mk ((by rw [hg]; exact Nat.ne_of_gt (blk_lt (g := gb580) (o := .cells #[.int .u32 0, .int .u16 0, .int .i64 0, .int .i64 0] 49 (0, 0)) (by (with_reducible repeat (first | refine blk_drewN ?_ _ | refine blk_drew ?_ | refine blk_alloc ?_ _)); exact BK580.out)) : gb585 ≠ gb580))
                                clear BK580
                                clear HB
                                have BK580 := n0_
                                have HB := n1_
                                have BK585 := n2_
                                have GW585 := n3_
                                have GE585 := n4_
                                have NB580_585 := n5_
                                have NB585_580 := n6_
                                clear n0_ n1_ n2_ n3_ n4_ n5_ n6_
                                clear hb hbox hg
                                refine hK.out _ _ trivial (fun hHeld => ?_)
                                clear hK K
                                refine norm_ (a' := ?_) ?_ ?_
                                rotate_left
                                · show Act.put _ (some 4) _ = _
                                  simp only [Act.put, List.setIfInBounds_toArray, List.set_cons_zero, List.set_cons_succ, i64_w, i32_w]
                                  rfl
                                exact norm_ (by first | (simp only [putAll, Act.put, List.setIfInBounds_toArray, List.set_cons_zero, List.set_cons_succ]; done) | (simp only [putAll, Act.put, List.setIfInBounds_toArray, List.set_cons_zero, List.set_cons_succ]; rfl)) (hJ2_6_10_18 (gb585) _ ⟨(by (with_reducible repeat (first | refine blk_drewN ?_ _ | refine blk_drew ?_ | refine blk_alloc ?_ _)); exact BK580.out), (by (with_reducible repeat (first | refine blk_drewN ?_ _ | refine blk_drew ?_ | refine blk_alloc ?_ _)); exact BK585.out), GW585.out, GE585.out, NB580_585.out, NB585_580.out, (by repeat (first | (with_reducible first | exact HB.out | apply below_alloc | apply pw_below_drewN | apply below_drew1 | refine below_set ?_ GE580.out | refine below_set ?_ GE585.out) | exact HB.out))⟩)
                          · skip
                            rintro gb585 w23 ⟨h0_, h1_, h2_, h3_, h4_, h5_, h6_⟩
                            have n0_ : Aside0 (w23.heap[gb580]? = some (.cells #[.int .u32 0, .int .u16 0, .int .i64 0, .int .i64 0] 49 (0, 0))) := ⟨h0_⟩
                            have n1_ : Aside0 (w23.heap[gb585]? = some (.cells #[.int .u32 0, .int .u16 0, .int .i64 0, .int .i64 0] 49 (0, 0))) := ⟨h1_⟩
                            have n2_ : Aside0 (w.heap.size ≤ gb585) := ⟨h2_⟩
                            have n3_ : Aside0 (w.heap.size ≤ gb585) := ⟨h3_⟩
                            have n4_ : Aside0 (gb580 ≠ gb585) := ⟨h4_⟩
                            have n5_ : Aside0 (gb585 ≠ gb580) := ⟨h5_⟩
                            have n6_ : Aside0 (Below w.heap.size w w23) := ⟨h6_⟩
                            clear BK580
                            clear HB
                            clear h0_ h1_ h2_ h3_ h4_ h5_ h6_
                            have BK580 := n0_
                            have BK585 := n1_
                            have GW585 := n2_
                            have GE585 := n3_
                            have NB580_585 := n4_
                            have NB585_580 := n5_
                            have HB := n6_
                            clear n0_ n1_ n2_ n3_ n4_ n5_ n6_
                            have hHeld := trivial
                            refine norm_ (a' := ?_) ?_ ?_
                            rotate_left
                            · simp only [putAll, Act.put, List.setIfInBounds_toArray, List.set_cons_zero, List.set_cons_succ]
                              rfl
                            refine one_ (i := 15) (N := some 25) #[true, true, true, true, true, true, true, true, true, true, true, true, true, true, true, true, false, false, true, false] rfl rfl (one_of HT_.out (by kernel_rfl)) (by decide) (fun K hK => ?_)
                            refine goes_ Tryd.func46 (by kernel_rfl) rfl #[.string (a0.extract 14 22)] (by rfl) rfl rfl (by (try simp only [List.map_toArray, List.map_cons, List.map_nil]); first | done | rfl | (simp only [List.length_drop, List.length_take]; rfl)) ?_
                            with_reducible refine (bazaarref03_Get.calls k (a0.extract 14 22) t584 _ ?side1 A14.out).mono ?_
                            (case side1 => exact Laid_below HLD.out (by repeat (first | (with_reducible first | exact HB.out | apply below_alloc | apply pw_below_drewN | apply below_drew1 | refine below_set ?_ GE580.out | refine below_set ?_ GE585.out) | exact HB.out)))
                            rintro e w24 ⟨rfl, hb⟩
                            refine ⟨_, rfl, ?_⟩
                            have n0_ := Aside0.mk (blk_below (g := gb580) (o := .cells #[.int .u32 0, .int .u16 0, .int .i64 0, .int .i64 0] 49 (0, 0)) (by (with_reducible repeat (first | refine blk_drewN ?_ _ | refine blk_drew ?_ | refine blk_alloc ?_ _)); exact BK580.out) hb)
                            have n1_ := Aside0.mk (blk_below (g := gb585) (o := .cells #[.int .u32 0, .int .u16 0, .int .i64 0, .int .i64 0] 49 (0, 0)) (by (with_reducible repeat (first | refine blk_drewN ?_ _ | refine blk_drew ?_ | refine blk_alloc ?_ _)); exact BK585.out) hb)
                            have n2_ := Aside0.mk (below_step (by repeat (first | (with_reducible first | exact HB.out | apply below_alloc | apply pw_below_drewN | apply below_drew1 | refine below_set ?_ GE580.out | refine below_set ?_ GE585.out) | exact HB.out)) hb)
                            clear BK580
                            clear BK585
                            clear HB
                            have BK580 := n0_
                            have BK585 := n1_
                            have HB := n2_
                            clear n0_ n1_ n2_
                            (try clear hb)
                            (try clear hb2)
                            (try clear hk)
                            (try clear hi)
                            refine hK.out _ _ trivial (fun hHeld => ?_)
                            clear hK K
                            refine norm_ (a' := ?_) ?_ ?_
                            rotate_left
                            · show Act.put _ (some 25) _ = _
                              simp only [Act.put, List.setIfInBounds_toArray, List.set_cons_zero, List.set_cons_succ, i64_w, i32_w]
                              rfl
                            refine pure_ (i := 16) (N := some 26) (v := ?_) (a' := ?_) #[true, true, true, true, true, true, true, true, true, true, true, true, true, true, true, true, true, false, true, false] rfl rfl (any_of HT_.out (by kernel_rfl)) (fun _ _ _ h => h) (Or.inl ⟨by rfl, ?_⟩) ?_ ?_
                            rotate_left
                            · intro w'
                              go_simp
                              with_reducible rfl
                            rotate_left
                            · simp only [Act.put, List.setIfInBounds_toArray, List.set_cons_zero, List.set_cons_succ, i64_w, i32_w]
                              rfl
                            refine pure_ (i := 17) (N := some 27) (v := ?_) (a' := ?_) #[true, true, true, true, true, true, true, true, true, true, true, true, true, true, true, true, true, true, true, false] rfl rfl (any_of HT_.out (by kernel_rfl)) (fun _ _ _ h => h) (Or.inl ⟨by rfl, ?_⟩) ?_ ?_
                            rotate_left
                            · intro w'
                              go_simp
                              with_reducible rfl
                            rotate_left
                            · simp only [Act.put, List.setIfInBounds_toArray, List.set_cons_zero, List.set_cons_succ, i64_w, i32_w]
                              rfl
                            exact norm_ (by first | (simp only [putAll, Act.put, List.setIfInBounds_toArray, List.set_cons_zero, List.set_cons_succ]; done) | (simp only [putAll, Act.put, List.setIfInBounds_toArray, List.set_cons_zero, List.set_cons_succ]; rfl)) (hJ2_6_10_15_18 (gb585) _ ⟨(by (with_reducible repeat (first | refine blk_drewN ?_ _ | refine blk_drew ?_ | refine blk_alloc ?_ _)); exact BK580.out), (by (with_reducible repeat (first | refine blk_drewN ?_ _ | refine blk_drew ?_ | refine blk_alloc ?_ _)); exact BK585.out), GW585.out, GE585.out, NB580_585.out, NB585_580.out, (by repeat (first | (with_reducible first | exact HB.out | apply below_alloc | apply pw_below_drewN | apply below_drew1 | refine below_set ?_ GE580.out | refine below_set ?_ GE585.out) | exact HB.out))⟩)
                        · skip
                          rintro _ w23 ⟨h0_, h1_⟩
                          have n0_ : Aside0 (w23.heap[gb580]? = some (.cells #[.int .u32 0, .int .u16 0, .int .i64 0, .int .i64 0] 49 (0, 0))) := ⟨h0_⟩
                          have n1_ : Aside0 (Below w.heap.size w w23) := ⟨h1_⟩
                          clear BK580
                          clear HB
                          clear h0_ h1_
                          have BK580 := n0_
                          have HB := n1_
                          clear n0_ n1_
                          have hHeld := trivial
                          refine norm_ (a' := ?_) ?_ ?_
                          rotate_left
                          · simp only [putAll, Act.put, List.setIfInBounds_toArray, List.set_cons_zero, List.set_cons_succ]
                            rfl
                          refine one_ (i := 18) (N := some 4) #[true, true, true, true, true, true, true, true, true, true, true, true, true, true, true, true, true, true, true, false] rfl rfl (one_of HT_.out (by kernel_rfl)) (by decide) (fun K hK => ?_)
                          refine box_step ?hg (N := 4) ?hd (cs := #[.int .u32 0, .int .u16 0, .int .i64 0, .int .i64 0]) (t := 49) ?hr ?_; (case hd => rfl); (case hg => rfl); (case hr => first | (go_simp; done) | (go_simp; rfl))
                          intro gb585 hg w24 hbox hb
                          have n0_ := Aside0.mk (blk_below (g := gb580) (o := .cells #[.int .u32 0, .int .u16 0, .int .i64 0, .int .i64 0] 49 (0, 0)) (by (with_reducible repeat (first | refine blk_drewN ?_ _ | refine blk_drew ?_ | refine blk_alloc ?_ _)); exact BK580.out) hb)
                          have n1_ := Aside0.mk (below_step (by repeat (first | (with_reducible first | exact HB.out | apply below_alloc | apply pw_below_drewN | apply below_drew1 | refine below_set ?_ GE580.out) | exact HB.out)) hb)
                          have n2_ := Aside0.mk (hbox)
                          have n3_ := Aside0.mk ((by rw [hg]; exact (below_size (by repeat (first | (with_reducible first | exact HB.out | apply below_alloc | apply pw_below_drewN | apply below_drew1 | refine below_set ?_ GE580.out) | exact HB.out))) : w.heap.size ≤ gb585))
                          have n4_ := Aside0.mk ((by rw [hg]; exact (below_size (by repeat (first | (with_reducible first | exact HB.out | apply below_alloc | apply pw_below_drewN | apply below_drew1 | refine below_set ?_ GE580.out) | exact HB.out))) : w.heap.size ≤ gb585))
                          have n5_ := Aside0.mk ((by rw [hg]; exact Nat.ne_of_lt (blk_lt (g := gb580) (o := .cells #[.int .u32 0, .int .u16 0, .int .i64 0, .int .i64 0] 49 (0, 0)) (by (with_reducible repeat (first | refine blk_drewN ?_ _ | refine blk_drew ?_ | refine blk_alloc ?_ _)); exact BK580.out)) : gb580 ≠ gb585))
                          have n6_ := Aside0.mk ((by rw [hg]; exact Nat.ne_of_gt (blk_lt (g := gb580) (o := .cells #[.int .u32 0, .int .u16 0, .int .i64 0, .int .i64 0] 49 (0, 0)) (by (with_reducible repeat (first | refine blk_drewN ?_ _ | refine blk_drew ?_ | refine blk_alloc ?_ _)); exact BK580.out)) : gb585 ≠ gb580))
                          clear BK580
                          clear HB
                          have BK580 := n0_
                          have HB := n1_
                          have BK585 := n2_
                          have GW585 := n3_
                          have GE585 := n4_
                          have NB580_585 := n5_
                          have NB585_580 := n6_
                          clear n0_ n1_ n2_ n3_ n4_ n5_ n6_
                          clear hb hbox hg
                          refine hK.out _ _ trivial (fun hHeld => ?_)
                          clear hK K
                          refine norm_ (a' := ?_) ?_ ?_
                          rotate_left
                          · show Act.put _ (some 4) _ = _
                            simp only [Act.put, List.setIfInBounds_toArray, List.set_cons_zero, List.set_cons_succ, i64_w, i32_w]
                            rfl
                          exact norm_ (by first | (simp only [putAll, Act.put, List.setIfInBounds_toArray, List.set_cons_zero, List.set_cons_succ]; done) | (simp only [putAll, Act.put, List.setIfInBounds_toArray, List.set_cons_zero, List.set_cons_succ]; rfl)) (hJ2_6_10_15_18 (gb585) _ ⟨(by (with_reducible repeat (first | refine blk_drewN ?_ _ | refine blk_drew ?_ | refine blk_alloc ?_ _)); exact BK580.out), (by (with_reducible repeat (first | refine blk_drewN ?_ _ | refine blk_drew ?_ | refine blk_alloc ?_ _)); exact BK585.out), GW585.out, GE585.out, NB580_585.out, NB585_580.out, (by repeat (first | (with_reducible first | exact HB.out | apply below_alloc | apply pw_below_drewN | apply below_drew1 | refine below_set ?_ GE580.out | refine below_set ?_ GE585.out) | exact HB.out))⟩)
                      rintro gb585 w24 ⟨h0_, h1_, h2_, h3_, h4_, h5_, h6_⟩
                      have n0_ : Aside0 (w24.heap[gb580]? = some (.cells #[.int .u32 0, .int .u16 0, .int .i64 0, .int .i64 0] 49 (0, 0))) := ⟨h0_⟩
                      have n1_ : Aside0 (w24.heap[gb585]? = some (.cells #[.int .u32 0, .int .u16 0, .int .i64 0, .int .i64 0] 49 (0, 0))) := ⟨h1_⟩
                      have n2_ : Aside0 (w.heap.size ≤ gb585) := ⟨h2_⟩
                      have n3_ : Aside0 (w.heap.size ≤ gb585) := ⟨h3_⟩
                      have n4_ : Aside0 (gb580 ≠ gb585) := ⟨h4_⟩
                      have n5_ : Aside0 (gb585 ≠ gb580) := ⟨h5_⟩
                      have n6_ : Aside0 (Below w.heap.size w w24) := ⟨h6_⟩
                      clear BK580
                      clear HB
                      clear h0_ h1_ h2_ h3_ h4_ h5_ h6_
                      have BK580 := n0_
                      have BK585 := n1_
                      have GW585 := n2_
                      have GE585 := n3_
                      have NB580_585 := n4_
                      have NB585_580 := n5_
                      have HB := n6_
                      clear n0_ n1_ n2_ n3_ n4_ n5_ n6_
                      have hHeld := trivial
                      refine norm_ (a' := ?_) ?_ ?_
                      rotate_left
                      · simp only [putAll, Act.put, List.setIfInBounds_toArray, List.set_cons_zero, List.set_cons_succ]
                        rfl
                      refine one_ (i := 19) (N := none) #[true, true, true, true, true, true, true, true, true, true, true, true, true, true, true, true, true, true, true, true] rfl rfl (one_of HT_.out (by kernel_rfl)) (by decide) (fun K hK => ?_)
                      have hs25 : w24.cell? ⟨gb585, 0, none⟩ = some (.int .u32 0) := (blk_cell BK585.out 0).trans rfl
                      have hfs25 := blk_frozen BK585.out 0
                      have hns25_0 := NB580_585.out
                      have hms25_0 := NB585_580.out
                      have hs26 : w24.cell? ⟨gb585, 1, none⟩ = some (.int .u16 0) := (blk_cell BK585.out 1).trans rfl
                      have hfs26 := blk_frozen BK585.out 1
                      have hns26_0 := NB580_585.out
                      have hms26_0 := NB585_580.out
                      have hs27 : w24.cell? ⟨gb585, 2, none⟩ = some (.int .i64 0) := (blk_cell BK585.out 2).trans rfl
                      have hfs27 := blk_frozen BK585.out 2
                      have hns27_0 := NB580_585.out
                      have hms27_0 := NB585_580.out
                      have hs28 : w24.cell? ⟨gb585, 3, none⟩ = some (.int .i64 0) := (blk_cell BK585.out 3).trans rfl
                      have hfs28 := blk_frozen BK585.out 3
                      have hns28_0 := NB580_585.out
                      have hms28_0 := NB585_580.out
                      refine skip_ (w1 := ?_) (by rfl) rfl ?_ ?_
                      rotate_left
                      · go_simp
                        rfl
                      refine hK.out _ _ trivial (fun hHeld => ?_)
                      clear hK K
                      refine done_ (done_of HT_.out (by kernel_rfl)) ?_
                      have hnb29 := NB585_580.out
                      have hnc29 := NB580_585.out
                      have hcz30_0 : w24.cell? ⟨gb585, 0, none⟩ = some (.int .u32 0) := (blk_cell BK585.out 0).trans rfl
                      have hcz30_1 : w24.cell? ⟨gb585, 1, none⟩ = some (.int .u16 0) := (blk_cell BK585.out 1).trans rfl
                      have hcz30_2 : w24.cell? ⟨gb585, 2, none⟩ = some (.int .i64 0) := (blk_cell BK585.out 2).trans rfl
                      have hcz30_3 : w24.cell? ⟨gb585, 3, none⟩ = some (.int .i64 0) := (blk_cell BK585.out 3).trans rfl
                      have hfz30_0 := blk_frozen BK585.out 0
                      have hfz30_1 := blk_frozen BK585.out 1
                      have hfz30_2 := blk_frozen BK585.out 2
                      have hfz30_3 := blk_frozen BK585.out 3
                      try go_wp2_with (first | ((with_reducible refine gate_callee (f := 42) rfl ?_); refine goesL_ (some 29) rfl rfl Tryd.func42 (by kernel_rfl) rfl #[.agg #[.int .u32 ((t581) % 4294967296), .int .u16 (IntKind.u16.wrap (t582)), .int .i64 (wrap64 (t583)), .int .i64 (wrap64 (t584))]] rfl (by (try simp only [List.map_toArray, List.map_cons, List.map_nil]); first | done | rfl | (simp only [List.length_drop, List.length_take]; rfl)) ?_; (with_reducible refine (bazaarref15_Right.calls ((t581) % 4294967296) (IntKind.u16.wrap (t582)) (wrap64 (t583)) (wrap64 (t584)) true _ ?side1 A15.out).mono ?_); (case side1 => exact Laid_below HLD.out (by repeat (first | (with_reducible first | exact HB.out | apply below_alloc | apply pw_below_drewN | apply below_drew1 | refine below_set ?_ GE580.out | refine below_set ?_ GE585.out) | exact HB.out))); rintro e w31 ⟨rfl, hb⟩; refine ⟨_, rfl, ?_⟩; have n0_ := Aside0.mk (blk_below (g := gb580) (o := .cells #[.int .u32 0, .int .u16 0, .int .i64 0, .int .i64 0] 49 (0, 0)) (by (with_reducible repeat (first | refine blk_drewN ?_ _ | refine blk_drew ?_ | refine blk_alloc ?_ _)); refine blk_far ?_ NB580_585.out _; (with_reducible repeat (first | refine blk_drewN ?_ _ | refine blk_drew ?_ | refine blk_alloc ?_ _)); refine blk_far ?_ NB580_585.out _; (with_reducible repeat (first | refine blk_drewN ?_ _ | refine blk_drew ?_ | refine blk_alloc ?_ _)); refine blk_far ?_ NB580_585.out _; (with_reducible repeat (first | refine blk_drewN ?_ _ | refine blk_drew ?_ | refine blk_alloc ?_ _)); refine blk_far ?_ NB580_585.out _; (with_reducible repeat (first | refine blk_drewN ?_ _ | refine blk_drew ?_ | refine blk_alloc ?_ _)); exact BK580.out) hb); have n1_ := Aside0.mk (blk_below (g := gb585) (o := .cells #[.int .u32 ((t581) % 4294967296), .int .u16 (IntKind.u16.wrap (t582)), .int .i64 (wrap64 (t583)), .int .i64 (wrap64 (t584))] 49 (0, 0)) (by (with_reducible repeat (first | refine blk_drewN ?_ _ | refine blk_drew ?_ | refine blk_alloc ?_ _)); refine blk_put (cs := #[.int .u32 ((t581) % 4294967296), .int .u16 (IntKind.u16.wrap (t582)), .int .i64 (wrap64 (t583)), .int .i64 0]) ?_ 3 _ rfl; (with_reducible repeat (first | refine blk_drewN ?_ _ | refine blk_drew ?_ | refine blk_alloc ?_ _)); refine blk_put (cs := #[.int .u32 ((t581) % 4294967296), .int .u16 (IntKind.u16.wrap (t582)), .int .i64 0, .int .i64 0]) ?_ 2 _ rfl; (with_reducible repeat (first | refine blk_drewN ?_ _ | refine blk_drew ?_ | refine blk_alloc ?_ _)); refine blk_put (cs := #[.int .u32 ((t581) % 4294967296), .int .u16 0, .int .i64 0, .int .i64 0]) ?_ 1 _ rfl; (with_reducible repeat (first | refine blk_drewN ?_ _ | refine blk_drew ?_ | refine blk_alloc ?_ _)); refine blk_put (cs := #[.int .u32 0, .int .u16 0, .int .i64 0, .int .i64 0]) ?_ 0 _ rfl; (with_reducible repeat (first | refine blk_drewN ?_ _ | refine blk_drew ?_ | refine blk_alloc ?_ _)); exact BK585.out) hb); have n2_ := Aside0.mk (below_step (by repeat (first | (with_reducible first | exact HB.out | apply below_alloc | apply pw_below_drewN | apply below_drew1 | refine below_set ?_ GE580.out | refine below_set ?_ GE585.out) | exact HB.out)) hb); clear BK580; clear BK585; clear HB; have BK580 := n0_; have BK585 := n1_; have HB := n2_; clear n0_ n1_ n2_; (try clear hb); (try clear hb2); (try clear hk); (try clear hi); have hcz32_0 : w31.cell? ⟨gb585, 0, none⟩ = some (.int .u32 ((t581) % 4294967296)) := (blk_cell BK585.out 0).trans rfl; have hcz32_1 : w31.cell? ⟨gb585, 1, none⟩ = some (.int .u16 (IntKind.u16.wrap (t582))) := (blk_cell BK585.out 1).trans rfl; have hcz32_2 : w31.cell? ⟨gb585, 2, none⟩ = some (.int .i64 (wrap64 (t583))) := (blk_cell BK585.out 2).trans rfl; have hcz32_3 : w31.cell? ⟨gb585, 3, none⟩ = some (.int .i64 (wrap64 (t584))) := (blk_cell BK585.out 3).trans rfl; have hfz32_0 := blk_frozen BK585.out 0; have hfz32_1 := blk_frozen BK585.out 1; have hfz32_2 := blk_frozen BK585.out 2; have hfz32_3 := blk_frozen BK585.out 3; have hcz33_0 : w31.cell? ⟨gb580, 0, none⟩ = some (.int .u32 0) := (blk_cell BK580.out 0).trans rfl; have hcz33_1 : w31.cell? ⟨gb580, 1, none⟩ = some (.int .u16 0) := (blk_cell BK580.out 1).trans rfl; have hcz33_2 : w31.cell? ⟨gb580, 2, none⟩ = some (.int .i64 0) := (blk_cell BK580.out 2).trans rfl; have hcz33_3 : w31.cell? ⟨gb580, 3, none⟩ = some (.int .i64 0) := (blk_cell BK580.out 3).trans rfl; have hfz33_0 := blk_frozen BK580.out 0; have hfz33_1 := blk_frozen BK580.out 1; have hfz33_2 := blk_frozen BK580.out 2; have hfz33_3 := blk_frozen BK580.out 3))
                      refine bodyPost_ret (results_ct rfl _ _ gb580 49 #[.int .u32 ((t581) % 4294967296), .int .u16 (IntKind.u16.wrap (t582)), .int .i64 (wrap64 (t583)), .int .i64 (wrap64 (t584))] (0, 0) _ rfl (by (with_reducible repeat (first | refine blk_drewN ?_ _ | refine blk_drew ?_ | refine blk_alloc ?_ _)); refine blk_put (cs := #[.int .u32 ((t581) % 4294967296), .int .u16 (IntKind.u16.wrap (t582)), .int .i64 (wrap64 (t583)), .int .i64 0]) ?_ 3 _ rfl; (with_reducible repeat (first | refine blk_drewN ?_ _ | refine blk_drew ?_ | refine blk_alloc ?_ _)); refine blk_put (cs := #[.int .u32 ((t581) % 4294967296), .int .u16 (IntKind.u16.wrap (t582)), .int .i64 0, .int .i64 0]) ?_ 2 _ rfl; (with_reducible repeat (first | refine blk_drewN ?_ _ | refine blk_drew ?_ | refine blk_alloc ?_ _)); refine blk_put (cs := #[.int .u32 ((t581) % 4294967296), .int .u16 0, .int .i64 0, .int .i64 0]) ?_ 1 _ rfl; (with_reducible repeat (first | refine blk_drewN ?_ _ | refine blk_drew ?_ | refine blk_alloc ?_ _)); refine blk_put (cs := #[.int .u32 0, .int .u16 0, .int .i64 0, .int .i64 0]) ?_ 0 _ rfl; (with_reducible repeat (first | refine blk_drewN ?_ _ | refine blk_drew ?_ | refine blk_alloc ?_ _)); exact BK580.out) Tryd.underlying49 rfl (by kernel_rfl)) rfl ?_
                      exact ⟨by first | rfl | (simp [errW_none, errW_some] <;> rfl) | (simp [*, errW_none, errW_some] <;> rfl), by repeat (first | (with_reducible first | exact HB.out | apply below_alloc | apply pw_below_drewN | apply below_drew1 | refine below_set ?_ GE580.out | refine below_set ?_ GE585.out) | exact HB.out)⟩
                    · replace c16 := Bool.eq_false_iff.mpr c16
                      subst c16
                      have H1 : (some (0, 0, 0, 0, 150)) = some (r1, r2, r3, r4, r5) := by rw [if_neg (show ¬ (false = true) by decide)] at H; exact H
                      clear H
                      have H := H1
                      clear H1
                      simp only [Option.some.injEq, Prod.mk.injEq] at H
                      obtain ⟨rfl, rfl, rfl, rfl, rfl⟩ := H
                      go_enter Tryd.func40, Tryd.ntmps40
                      try go_wp2_with (first | ((with_reducible refine gate_dst (N := 2) rfl ?_); refine box_event ?hg (N := 2) ?hd (cs := #[.int .u32 0, .int .u16 0, .int .i64 0, .int .i64 0]) (t := 49) ?hr ?_; (case hd => rfl); (case hg => rfl); (case hr => first | (go_simp; done) | (go_simp; rfl)); intro gb580 hg w34 hbox hb; have n0_ := Aside0.mk (below_step (by repeat (first | (with_reducible first | exact HB.out | apply below_alloc | apply pw_below_drewN | apply below_drew1) | exact HB.out)) hb); have n1_ := Aside0.mk (hbox); have n2_ := Aside0.mk ((by rw [hg]; exact (below_size (by repeat (first | (with_reducible first | exact HB.out | apply below_alloc | apply pw_below_drewN | apply below_drew1) | exact HB.out))) : w.heap.size ≤ gb580)); have n3_ := Aside0.mk ((by rw [hg]; exact (below_size (by repeat (first | (with_reducible first | exact HB.out | apply below_alloc | apply pw_below_drewN | apply below_drew1) | exact HB.out))) : w.heap.size ≤ gb580)); clear HB; have HB := n0_; have BK580 := n1_; have GW580 := n2_; have GE580 := n3_; clear n0_ n1_ n2_ n3_; clear hb hbox hg))
                      have n0_ := Aside0.mk (blk_drew BK580.out)
                      have n1_ := Aside0.mk (below_drew1 HB.out)
                      clear BK580
                      clear HB
                      have BK580 := n0_
                      have HB := n1_
                      clear n0_ n1_
                      refine start_ (n := 20) (S := fun w' => True) (ds := []) #[false, false, false, false, false, false, false, false, false, false, false, false, false, false, false, false, false, false, false, false] (by kernel_rfl) rfl rfl trivial (fun hHeld => ?_); refine with_tabW bazaarref15_Parse.tab3 bazaarref15_Parse.bits3 (fun HT_ HW_ => ?_)
                      generalize w34.drew = w35 at BK580 HB hHeld ⊢
                      refine pure_ (i := 0) (N := some 10) (v := ?_) (a' := ?_) #[true, false, false, false, false, false, false, false, false, false, false, false, false, false, false, false, false, false, false, false] rfl rfl (any_of HT_.out (by kernel_rfl)) (fun _ _ _ h => h) (Or.inl ⟨by rfl, ?_⟩) ?_ ?_
                      rotate_left
                      · intro w'
                        go_simp
                        with_reducible rfl
                      rotate_left
                      · simp only [Act.put, List.setIfInBounds_toArray, List.set_cons_zero, List.set_cons_succ, i64_w, i32_w]
                        rfl
                      refine pure_ (i := 1) (N := some 11) (v := ?_) (a' := ?_) #[true, true, false, false, false, false, false, false, false, false, false, false, false, false, false, false, false, false, false, false] rfl rfl (any_of HT_.out (by kernel_rfl)) (fun _ _ _ h => h) (Or.inl ⟨by rfl, ?_⟩) ?_ ?_
                      rotate_left
                      · intro w'
                        go_simp
                        with_reducible rfl
                      rotate_left
                      · simp only [Act.put, List.setIfInBounds_toArray, List.set_cons_zero, List.set_cons_succ, i64_w, i32_w]
                        rfl
                      refine pure_ (i := 4) (N := some 14) (v := ?_) (a' := ?_) #[true, true, false, false, true, false, false, false, false, false, false, false, false, false, false, false, false, false, false, false] rfl rfl (any_of HT_.out (by kernel_rfl)) (fun _ _ _ h => h) (Or.inl ⟨by rfl, ?_⟩) ?_ ?_
                      rotate_left
                      · intro w'
                        go_simp
                        with_reducible rfl
                      rotate_left
                      · simp only [Act.put, List.setIfInBounds_toArray, List.set_cons_zero, List.set_cons_succ, i64_w, i32_w]
                        rfl
                      refine pure_ (i := 5) (N := some 15) (v := ?_) (a' := ?_) #[true, true, false, false, true, true, false, false, false, false, false, false, false, false, false, false, false, false, false, false] rfl rfl (any_of HT_.out (by kernel_rfl)) (fun _ _ _ h => h) (Or.inl ⟨by rfl, ?_⟩) ?_ ?_
                      rotate_left
                      · intro w'
                        go_simp
                        with_reducible rfl
                      rotate_left
                      · simp only [Act.put, List.setIfInBounds_toArray, List.set_cons_zero, List.set_cons_succ, i64_w, i32_w]
                        rfl
                      refine pure_ (i := 8) (N := some 18) (v := ?_) (a' := ?_) #[true, true, false, false, true, true, false, false, true, false, false, false, false, false, false, false, false, false, false, false] rfl rfl (any_of HT_.out (by kernel_rfl)) (fun _ _ _ h => h) (Or.inl ⟨by rfl, ?_⟩) ?_ ?_
                      rotate_left
                      · intro w'
                        go_simp
                        with_reducible rfl
                      rotate_left
                      · simp only [Act.put, List.setIfInBounds_toArray, List.set_cons_zero, List.set_cons_succ, i64_w, i32_w]
                        rfl
                      refine pure_ (i := 9) (N := some 19) (v := ?_) (a' := ?_) #[true, true, false, false, true, true, false, false, true, true, false, false, false, false, false, false, false, false, false, false] rfl rfl (any_of HT_.out (by kernel_rfl)) (fun _ _ _ h => h) (Or.inl ⟨by rfl, ?_⟩) ?_ ?_
                      rotate_left
                      · intro w'
                        go_simp
                        with_reducible rfl
                      rotate_left
                      · simp only [Act.put, List.setIfInBounds_toArray, List.set_cons_zero, List.set_cons_succ, i64_w, i32_w]
                        rfl
                      refine pure_ (i := 13) (N := some 23) (v := ?_) (a' := ?_) #[true, true, false, false, true, true, false, false, true, true, false, false, false, true, false, false, false, false, false, false] rfl rfl (any_of HT_.out (by kernel_rfl)) (fun _ _ _ h => h) (Or.inl ⟨by rfl, ?_⟩) ?_ ?_
                      rotate_left
                      · intro w'
                        go_simp
                        with_reducible rfl
                      rotate_left
                      · simp only [Act.put, List.setIfInBounds_toArray, List.set_cons_zero, List.set_cons_succ, i64_w, i32_w]
                        rfl
                      refine pure_ (i := 14) (N := some 24) (v := ?_) (a' := ?_) #[true, true, false, false, true, true, false, false, true, true, false, false, false, true, true, false, false, false, false, false] rfl rfl (any_of HT_.out (by kernel_rfl)) (fun _ _ _ h => h) (Or.inl ⟨by rfl, ?_⟩) ?_ ?_
                      rotate_left
                      · intro w'
                        go_simp
                        with_reducible rfl
                      rotate_left
                      · simp only [Act.put, List.setIfInBounds_toArray, List.set_cons_zero, List.set_cons_succ, i64_w, i32_w]
                        rfl
                      refine join_ (σ := Nat) 1 #[true, true, true, true, true, true, true, true, true, true, true, true, true, true, true, true, true, true, true, false] (fun s_ => [(12, .int .u64 t581), (16, .int .u64 t582), (20, .int .u64 t583), (25, .int .u64 t584), (4, .pointer (some ⟨s_, 0, none⟩)), (13, .int .u32 ((t581) % 4294967296)), (17, .int .u16 (IntKind.u16.wrap (t582))), (21, .int .i64 (wrap64 (t583))), (22, .agg #[.int .u16 (IntKind.u16.wrap (t582)), .int .i64 (wrap64 (t583))]), (26, .int .i64 (wrap64 (t584))), (27, .agg #[.int .u32 ((t581) % 4294967296), .int .u16 (IntKind.u16.wrap (t582)), .int .i64 (wrap64 (t583)), .int .i64 (wrap64 (t584))])]) (fun s_ w' => (w'.heap[gb580]? = some (.cells #[.int .u32 0, .int .u16 0, .int .i64 0, .int .i64 0] 49 (0, 0))) ∧ (w'.heap[s_]? = some (.cells #[.int .u32 0, .int .u16 0, .int .i64 0, .int .i64 0] 49 (0, 0))) ∧ (w.heap.size ≤ s_) ∧ (w.heap.size ≤ s_) ∧ (gb580 ≠ s_) ∧ (s_ ≠ gb580) ∧ (Below w.heap.size w w')) ?_ ?_
                      rotate_left
                      · intro hJ2_6_10_15_18
                        refine join_ (σ := Unit) 2 #[true, true, true, true, true, true, true, true, true, true, true, true, true, true, true, true, true, true, false, false] (fun s_ => [(12, .int .u64 t581), (16, .int .u64 t582), (20, .int .u64 t583), (25, .int .u64 t584), (13, .int .u32 ((t581) % 4294967296)), (17, .int .u16 (IntKind.u16.wrap (t582))), (21, .int .i64 (wrap64 (t583))), (22, .agg #[.int .u16 (IntKind.u16.wrap (t582)), .int .i64 (wrap64 (t583))]), (26, .int .i64 (wrap64 (t584))), (27, .agg #[.int .u32 ((t581) % 4294967296), .int .u16 (IntKind.u16.wrap (t582)), .int .i64 (wrap64 (t583)), .int .i64 (wrap64 (t584))])]) (fun s_ w' => (w'.heap[gb580]? = some (.cells #[.int .u32 0, .int .u16 0, .int .i64 0, .int .i64 0] 49 (0, 0))) ∧ (Below w.heap.size w w')) ?_ ?_
                        rotate_left
                        · intro hJ2_6_10_15
                          refine join_ (σ := Nat) 4 #[true, true, true, true, true, true, true, true, true, true, true, true, true, true, true, false, false, false, true, false] (fun s_ => [(12, .int .u64 t581), (16, .int .u64 t582), (20, .int .u64 t583), (4, .pointer (some ⟨s_, 0, none⟩)), (13, .int .u32 ((t581) % 4294967296)), (17, .int .u16 (IntKind.u16.wrap (t582))), (21, .int .i64 (wrap64 (t583))), (22, .agg #[.int .u16 (IntKind.u16.wrap (t582)), .int .i64 (wrap64 (t583))])]) (fun s_ w' => (w'.heap[gb580]? = some (.cells #[.int .u32 0, .int .u16 0, .int .i64 0, .int .i64 0] 49 (0, 0))) ∧ (w'.heap[s_]? = some (.cells #[.int .u32 0, .int .u16 0, .int .i64 0, .int .i64 0] 49 (0, 0))) ∧ (w.heap.size ≤ s_) ∧ (w.heap.size ≤ s_) ∧ (gb580 ≠ s_) ∧ (s_ ≠ gb580) ∧ (Below w.heap.size w w')) ?_ ?_
                          rotate_left
                          · intro hJ2_6_10_18
                            refine join_ (σ := Unit) 5 #[true, true, true, true, true, true, true, true, true, true, true, true, true, true, true, false, false, false, false, false] (fun s_ => [(12, .int .u64 t581), (16, .int .u64 t582), (20, .int .u64 t583), (13, .int .u32 ((t581) % 4294967296)), (17, .int .u16 (IntKind.u16.wrap (t582))), (21, .int .i64 (wrap64 (t583))), (22, .agg #[.int .u16 (IntKind.u16.wrap (t582)), .int .i64 (wrap64 (t583))])]) (fun s_ w' => (w'.heap[gb580]? = some (.cells #[.int .u32 0, .int .u16 0, .int .i64 0, .int .i64 0] 49 (0, 0))) ∧ (Below w.heap.size w w')) ?_ ?_
                            rotate_left
                            · intro hJ2_6_10
                              refine join_ (σ := Nat) 7 #[true, true, true, true, true, true, true, true, true, true, false, false, false, true, true, false, false, false, true, false] (fun s_ => [(12, .int .u64 t581), (16, .int .u64 t582), (4, .pointer (some ⟨s_, 0, none⟩)), (13, .int .u32 ((t581) % 4294967296)), (17, .int .u16 (IntKind.u16.wrap (t582)))]) (fun s_ w' => (w'.heap[gb580]? = some (.cells #[.int .u32 0, .int .u16 0, .int .i64 0, .int .i64 0] 49 (0, 0))) ∧ (w'.heap[s_]? = some (.cells #[.int .u32 0, .int .u16 0, .int .i64 0, .int .i64 0] 49 (0, 0))) ∧ (w.heap.size ≤ s_) ∧ (w.heap.size ≤ s_) ∧ (gb580 ≠ s_) ∧ (s_ ≠ gb580) ∧ (Below w.heap.size w w')) ?_ ?_
                              rotate_left
                              · intro hJ2_6_18
                                refine join_ (σ := Unit) 8 #[true, true, true, true, true, true, true, true, true, true, false, false, false, true, true, false, false, false, false, false] (fun s_ => [(12, .int .u64 t581), (16, .int .u64 t582), (13, .int .u32 ((t581) % 4294967296)), (17, .int .u16 (IntKind.u16.wrap (t582)))]) (fun s_ w' => (w'.heap[gb580]? = some (.cells #[.int .u32 0, .int .u16 0, .int .i64 0, .int .i64 0] 49 (0, 0))) ∧ (Below w.heap.size w w')) ?_ ?_
                                rotate_left
                                · intro hJ2_6
                                  refine join_ (σ := Nat) 9 #[true, true, true, true, true, true, false, false, true, true, false, false, false, true, true, false, false, false, true, false] (fun s_ => [(12, .int .u64 t581), (4, .pointer (some ⟨s_, 0, none⟩)), (13, .int .u32 ((t581) % 4294967296))]) (fun s_ w' => (w'.heap[gb580]? = some (.cells #[.int .u32 0, .int .u16 0, .int .i64 0, .int .i64 0] 49 (0, 0))) ∧ (w'.heap[s_]? = some (.cells #[.int .u32 0, .int .u16 0, .int .i64 0, .int .i64 0] 49 (0, 0))) ∧ (w.heap.size ≤ s_) ∧ (w.heap.size ≤ s_) ∧ (gb580 ≠ s_) ∧ (s_ ≠ gb580) ∧ (Below w.heap.size w w')) ?_ ?_
                                  rotate_left
                                  · intro hJ2_18
                                    refine join_ (σ := Unit) 10 #[true, true, true, true, true, true, false, false, true, true, false, false, false, true, true, false, false, false, false, false] (fun s_ => [(12, .int .u64 t581), (13, .int .u32 ((t581) % 4294967296))]) (fun s_ w' => (w'.heap[gb580]? = some (.cells #[.int .u32 0, .int .u16 0, .int .i64 0, .int .i64 0] 49 (0, 0))) ∧ (Below w.heap.size w w')) ?_ ?_
                                    rotate_left
                                    · intro hJ2
                                      refine join_ (σ := Nat) 11 #[true, true, false, false, true, true, false, false, true, true, false, false, false, true, true, false, false, false, true, false] (fun s_ => [(4, .pointer (some ⟨s_, 0, none⟩))]) (fun s_ w' => (w'.heap[gb580]? = some (.cells #[.int .u32 0, .int .u16 0, .int .i64 0, .int .i64 0] 49 (0, 0))) ∧ (w'.heap[s_]? = some (.cells #[.int .u32 0, .int .u16 0, .int .i64 0, .int .i64 0] 49 (0, 0))) ∧ (w.heap.size ≤ s_) ∧ (w.heap.size ≤ s_) ∧ (gb580 ≠ s_) ∧ (s_ ≠ gb580) ∧ (Below w.heap.size w w')) ?_ ?_
                                      rotate_left
                                      · intro hJ18
                                        refine two_ (i := 2) (j := 18) (Ni := some 12) (Nj := some 4) #[true, true, true, false, true, true, false, false, true, true, false, false, false, true, true, false, false, false, false, false] #[true, true, false, false, true, true, false, false, true, true, false, false, false, true, true, false, false, false, true, false] rfl rfl rfl rfl (two_of HT_.out (by kernel_rfl)) (by decide) (by decide) (fun K hK => ?_) (fun K hK => ?_)
                                        · skip
                                          refine goes_ Tryd.func46 (by kernel_rfl) rfl #[.string (a0.extract 0 4)] (by rfl) rfl rfl (by (try simp only [List.map_toArray, List.map_cons, List.map_nil]); first | done | rfl | (simp only [List.length_drop, List.length_take]; rfl)) ?_
                                          with_reducible refine (bazaarref03_Get.calls k (a0.extract 0 4) t581 _ ?side1 A5.out).mono ?_
                                          (case side1 => exact Laid_below HLD.out (by repeat (first | (with_reducible first | exact HB.out | apply below_alloc | apply pw_below_drewN | apply below_drew1 | refine below_set ?_ GE580.out) | exact HB.out)))
                                          rintro e w36 ⟨rfl, hb⟩
                                          refine ⟨_, rfl, ?_⟩
                                          have n0_ := Aside0.mk (blk_below (g := gb580) (o := .cells #[.int .u32 0, .int .u16 0, .int .i64 0, .int .i64 0] 49 (0, 0)) (by (with_reducible repeat (first | refine blk_drewN ?_ _ | refine blk_drew ?_ | refine blk_alloc ?_ _)); exact BK580.out) hb)
                                          have n1_ := Aside0.mk (below_step (by repeat (first | (with_reducible first | exact HB.out | apply below_alloc | apply pw_below_drewN | apply below_drew1 | refine below_set ?_ GE580.out) | exact HB.out)) hb)
                                          clear BK580
                                          clear HB
                                          have BK580 := n0_
                                          have HB := n1_
                                          clear n0_ n1_
                                          (try clear hb)
                                          (try clear hb2)
                                          (try clear hk)
                                          (try clear hi)
                                          refine hK.out _ _ trivial (fun hHeld => ?_)
                                          clear hK K
                                          refine norm_ (a' := ?_) ?_ ?_
                                          rotate_left
                                          · show Act.put _ (some 12) _ = _
                                            simp only [Act.put, List.setIfInBounds_toArray, List.set_cons_zero, List.set_cons_succ, i64_w, i32_w]
                                            rfl
                                          refine pure_ (i := 3) (N := some 13) (v := ?_) (a' := ?_) #[true, true, true, true, true, true, false, false, true, true, false, false, false, true, true, false, false, false, false, false] rfl rfl (any_of HT_.out (by kernel_rfl)) (fun _ _ _ h => h) (Or.inl ⟨by rfl, ?_⟩) ?_ ?_
                                          rotate_left
                                          · intro w'
                                            go_simp
                                            with_reducible rfl
                                          rotate_left
                                          · simp only [Act.put, List.setIfInBounds_toArray, List.set_cons_zero, List.set_cons_succ, i64_w, i32_w]
                                            rfl
                                          exact norm_ (by first | (simp only [putAll, Act.put, List.setIfInBounds_toArray, List.set_cons_zero, List.set_cons_succ]; done) | (simp only [putAll, Act.put, List.setIfInBounds_toArray, List.set_cons_zero, List.set_cons_succ]; rfl)) (hJ2 () _ ⟨(by (with_reducible repeat (first | refine blk_drewN ?_ _ | refine blk_drew ?_ | refine blk_alloc ?_ _)); exact BK580.out), (by repeat (first | (with_reducible first | exact HB.out | apply below_alloc | apply pw_below_drewN | apply below_drew1 | refine below_set ?_ GE580.out) | exact HB.out))⟩)
                                        · skip
                                          refine box_step ?hg (N := 4) ?hd (cs := #[.int .u32 0, .int .u16 0, .int .i64 0, .int .i64 0]) (t := 49) ?hr ?_; (case hd => rfl); (case hg => rfl); (case hr => first | (go_simp; done) | (go_simp; rfl))
                                          intro gb585 hg w36 hbox hb
                                          have n0_ := Aside0.mk (blk_below (g := gb580) (o := .cells #[.int .u32 0, .int .u16 0, .int .i64 0, .int .i64 0] 49 (0, 0)) (by (with_reducible repeat (first | refine blk_drewN ?_ _ | refine blk_drew ?_ | refine blk_alloc ?_ _)); exact BK580.out) hb)
                                          have n1_ := Aside0.mk (below_step (by repeat (first | (with_reducible first | exact HB.out | apply below_alloc | apply pw_below_drewN | apply below_drew1 | refine below_set ?_ GE580.out) | exact HB.out)) hb)
                                          have n2_ := Aside0.mk (hbox)
                                          have n3_ := Aside0.mk ((by rw [hg]; exact (below_size (by repeat (first | (with_reducible first | exact HB.out | apply below_alloc | apply pw_below_drewN | apply below_drew1 | refine below_set ?_ GE580.out) | exact HB.out))) : w.heap.size ≤ gb585))
                                          have n4_ := Aside0.mk ((by rw [hg]; exact (below_size (by repeat (first | (with_reducible first | exact HB.out | apply below_alloc | apply pw_below_drewN | apply below_drew1 | refine below_set ?_ GE580.out) | exact HB.out))) : w.heap.size ≤ gb585))
                                          have n5_ := Aside0.mk ((by rw [hg]; exact Nat.ne_of_lt (blk_lt (g := gb580) (o := .cells #[.int .u32 0, .int .u16 0, .int .i64 0, .int .i64 0] 49 (0, 0)) (by (with_reducible repeat (first | refine blk_drewN ?_ _ | refine blk_drew ?_ | refine blk_alloc ?_ _)); exact BK580.out)) : gb580 ≠ gb585))
                                          have n6_ := Aside0.mk ((by rw [hg]; exact Nat.ne_of_gt (blk_lt (g := gb580) (o := .cells #[.int .u32 0, .int .u16 0, .int .i64 0, .int .i64 0] 49 (0, 0)) (by (with_reducible repeat (first | refine blk_drewN ?_ _ | refine blk_drew ?_ | refine blk_alloc ?_ _)); exact BK580.out)) : gb585 ≠ gb580))
                                          clear BK580
                                          clear HB
                                          have BK580 := n0_
                                          have HB := n1_
                                          have BK585 := n2_
                                          have GW585 := n3_
                                          have GE585 := n4_
                                          have NB580_585 := n5_
                                          have NB585_580 := n6_
                                          clear n0_ n1_ n2_ n3_ n4_ n5_ n6_
                                          clear hb hbox hg
                                          refine hK.out _ _ trivial (fun hHeld => ?_)
                                          clear hK K
                                          refine norm_ (a' := ?_) ?_ ?_
                                          rotate_left
                                          · show Act.put _ (some 4) _ = _
                                            simp only [Act.put, List.setIfInBounds_toArray, List.set_cons_zero, List.set_cons_succ, i64_w, i32_w]
                                            rfl
                                          exact norm_ (by first | (simp only [putAll, Act.put, List.setIfInBounds_toArray, List.set_cons_zero, List.set_cons_succ]; done) | (simp only [putAll, Act.put, List.setIfInBounds_toArray, List.set_cons_zero, List.set_cons_succ]; rfl)) (hJ18 (gb585) _ ⟨(by (with_reducible repeat (first | refine blk_drewN ?_ _ | refine blk_drew ?_ | refine blk_alloc ?_ _)); exact BK580.out), (by (with_reducible repeat (first | refine blk_drewN ?_ _ | refine blk_drew ?_ | refine blk_alloc ?_ _)); exact BK585.out), GW585.out, GE585.out, NB580_585.out, NB585_580.out, (by repeat (first | (with_reducible first | exact HB.out | apply below_alloc | apply pw_below_drewN | apply below_drew1 | refine below_set ?_ GE580.out | refine below_set ?_ GE585.out) | exact HB.out))⟩)
                                      · skip
                                        rintro gb585 w37 ⟨h0_, h1_, h2_, h3_, h4_, h5_, h6_⟩
                                        have n0_ : Aside0 (w37.heap[gb580]? = some (.cells #[.int .u32 0, .int .u16 0, .int .i64 0, .int .i64 0] 49 (0, 0))) := ⟨h0_⟩
                                        have n1_ : Aside0 (w37.heap[gb585]? = some (.cells #[.int .u32 0, .int .u16 0, .int .i64 0, .int .i64 0] 49 (0, 0))) := ⟨h1_⟩
                                        have n2_ : Aside0 (w.heap.size ≤ gb585) := ⟨h2_⟩
                                        have n3_ : Aside0 (w.heap.size ≤ gb585) := ⟨h3_⟩
                                        have n4_ : Aside0 (gb580 ≠ gb585) := ⟨h4_⟩
                                        have n5_ : Aside0 (gb585 ≠ gb580) := ⟨h5_⟩
                                        have n6_ : Aside0 (Below w.heap.size w w37) := ⟨h6_⟩
                                        clear BK580
                                        clear HB
                                        clear h0_ h1_ h2_ h3_ h4_ h5_ h6_
                                        have BK580 := n0_
                                        have BK585 := n1_
                                        have GW585 := n2_
                                        have GE585 := n3_
                                        have NB580_585 := n4_
                                        have NB585_580 := n5_
                                        have HB := n6_
                                        clear n0_ n1_ n2_ n3_ n4_ n5_ n6_
                                        have hHeld := trivial
                                        refine norm_ (a' := ?_) ?_ ?_
                                        rotate_left
                                        · simp only [putAll, Act.put, List.setIfInBounds_toArray, List.set_cons_zero, List.set_cons_succ]
                                          rfl
                                        refine one_ (i := 2) (N := some 12) #[true, true, true, false, true, true, false, false, true, true, false, false, false, true, true, false, false, false, true, false] rfl rfl (one_of HT_.out (by kernel_rfl)) (by decide) (fun K hK => ?_)
                                        refine goes_ Tryd.func46 (by kernel_rfl) rfl #[.string (a0.extract 0 4)] (by rfl) rfl rfl (by (try simp only [List.map_toArray, List.map_cons, List.map_nil]); first | done | rfl | (simp only [List.length_drop, List.length_take]; rfl)) ?_
                                        with_reducible refine (bazaarref03_Get.calls k (a0.extract 0 4) t581 _ ?side1 A5.out).mono ?_
                                        (case side1 => exact Laid_below HLD.out (by repeat (first | (with_reducible first | exact HB.out | apply below_alloc | apply pw_below_drewN | apply below_drew1 | refine below_set ?_ GE580.out | refine below_set ?_ GE585.out) | exact HB.out)))
                                        rintro e w38 ⟨rfl, hb⟩
                                        refine ⟨_, rfl, ?_⟩
                                        have n0_ := Aside0.mk (blk_below (g := gb580) (o := .cells #[.int .u32 0, .int .u16 0, .int .i64 0, .int .i64 0] 49 (0, 0)) (by (with_reducible repeat (first | refine blk_drewN ?_ _ | refine blk_drew ?_ | refine blk_alloc ?_ _)); exact BK580.out) hb)
                                        have n1_ := Aside0.mk (blk_below (g := gb585) (o := .cells #[.int .u32 0, .int .u16 0, .int .i64 0, .int .i64 0] 49 (0, 0)) (by (with_reducible repeat (first | refine blk_drewN ?_ _ | refine blk_drew ?_ | refine blk_alloc ?_ _)); exact BK585.out) hb)
                                        have n2_ := Aside0.mk (below_step (by repeat (first | (with_reducible first | exact HB.out | apply below_alloc | apply pw_below_drewN | apply below_drew1 | refine below_set ?_ GE580.out | refine below_set ?_ GE585.out) | exact HB.out)) hb)
                                        clear BK580
                                        clear BK585
                                        clear HB
                                        have BK580 := n0_
                                        have BK585 := n1_
                                        have HB := n2_
                                        clear n0_ n1_ n2_
                                        (try clear hb)
                                        (try clear hb2)
                                        (try clear hk)
                                        (try clear hi)
                                        refine hK.out _ _ trivial (fun hHeld => ?_)
                                        clear hK K
                                        refine norm_ (a' := ?_) ?_ ?_
                                        rotate_left
                                        · show Act.put _ (some 12) _ = _
                                          simp only [Act.put, List.setIfInBounds_toArray, List.set_cons_zero, List.set_cons_succ, i64_w, i32_w]
                                          rfl
                                        refine pure_ (i := 3) (N := some 13) (v := ?_) (a' := ?_) #[true, true, true, true, true, true, false, false, true, true, false, false, false, true, true, false, false, false, true, false] rfl rfl (any_of HT_.out (by kernel_rfl)) (fun _ _ _ h => h) (Or.inl ⟨by rfl, ?_⟩) ?_ ?_
                                        rotate_left
                                        · intro w'
                                          go_simp
                                          with_reducible rfl
                                        rotate_left
                                        · simp only [Act.put, List.setIfInBounds_toArray, List.set_cons_zero, List.set_cons_succ, i64_w, i32_w]
                                          rfl
                                        exact norm_ (by first | (simp only [putAll, Act.put, List.setIfInBounds_toArray, List.set_cons_zero, List.set_cons_succ]; done) | (simp only [putAll, Act.put, List.setIfInBounds_toArray, List.set_cons_zero, List.set_cons_succ]; rfl)) (hJ2_18 (gb585) _ ⟨(by (with_reducible repeat (first | refine blk_drewN ?_ _ | refine blk_drew ?_ | refine blk_alloc ?_ _)); exact BK580.out), (by (with_reducible repeat (first | refine blk_drewN ?_ _ | refine blk_drew ?_ | refine blk_alloc ?_ _)); exact BK585.out), GW585.out, GE585.out, NB580_585.out, NB585_580.out, (by repeat (first | (with_reducible first | exact HB.out | apply below_alloc | apply pw_below_drewN | apply below_drew1 | refine below_set ?_ GE580.out | refine below_set ?_ GE585.out) | exact HB.out))⟩)
                                    · skip
                                      rintro _ w37 ⟨h0_, h1_⟩
                                      have n0_ : Aside0 (w37.heap[gb580]? = some (.cells #[.int .u32 0, .int .u16 0, .int .i64 0, .int .i64 0] 49 (0, 0))) := ⟨h0_⟩
                                      have n1_ : Aside0 (Below w.heap.size w w37) := ⟨h1_⟩
                                      clear BK580
                                      clear HB
                                      clear h0_ h1_
                                      have BK580 := n0_
                                      have HB := n1_
                                      clear n0_ n1_
                                      have hHeld := trivial
                                      refine norm_ (a' := ?_) ?_ ?_
                                      rotate_left
                                      · simp only [putAll, Act.put, List.setIfInBounds_toArray, List.set_cons_zero, List.set_cons_succ]
                                        rfl
                                      refine two_ (i := 6) (j := 18) (Ni := some 16) (Nj := some 4) #[true, true, true, true, true, true, true, false, true, true, false, false, false, true, true, false, false, false, false, false] #[true, true, true, true, true, true, false, false, true, true, false, false, false, true, true, false, false, false, true, false] rfl rfl rfl rfl (two_of HT_.out (by kernel_rfl)) (by decide) (by decide) (fun K hK => ?_) (fun K hK => ?_)
                                      · skip
                                        refine goes_ Tryd.func46 (by kernel_rfl) rfl #[.string (a0.extract 4 6)] (by rfl) rfl rfl (by (try simp only [List.map_toArray, List.map_cons, List.map_nil]); first | done | rfl | (simp only [List.length_drop, List.length_take]; rfl)) ?_
                                        with_reducible refine (bazaarref03_Get.calls k (a0.extract 4 6) t582 _ ?side1 A8.out).mono ?_
                                        (case side1 => exact Laid_below HLD.out (by repeat (first | (with_reducible first | exact HB.out | apply below_alloc | apply pw_below_drewN | apply below_drew1 | refine below_set ?_ GE580.out) | exact HB.out)))
                                        rintro e w38 ⟨rfl, hb⟩
                                        refine ⟨_, rfl, ?_⟩
                                        have n0_ := Aside0.mk (blk_below (g := gb580) (o := .cells #[.int .u32 0, .int .u16 0, .int .i64 0, .int .i64 0] 49 (0, 0)) (by (with_reducible repeat (first | refine blk_drewN ?_ _ | refine blk_drew ?_ | refine blk_alloc ?_ _)); exact BK580.out) hb)
                                        have n1_ := Aside0.mk (below_step (by repeat (first | (with_reducible first | exact HB.out | apply below_alloc | apply pw_below_drewN | apply below_drew1 | refine below_set ?_ GE580.out) | exact HB.out)) hb)
                                        clear BK580
                                        clear HB
                                        have BK580 := n0_
                                        have HB := n1_
                                        clear n0_ n1_
                                        (try clear hb)
                                        (try clear hb2)
                                        (try clear hk)
                                        (try clear hi)
                                        refine hK.out _ _ trivial (fun hHeld => ?_)
                                        clear hK K
                                        refine norm_ (a' := ?_) ?_ ?_
                                        rotate_left
                                        · show Act.put _ (some 16) _ = _
                                          simp only [Act.put, List.setIfInBounds_toArray, List.set_cons_zero, List.set_cons_succ, i64_w, i32_w]
                                          rfl
                                        refine pure_ (i := 7) (N := some 17) (v := ?_) (a' := ?_) #[true, true, true, true, true, true, true, true, true, true, false, false, false, true, true, false, false, false, false, false] rfl rfl (any_of HT_.out (by kernel_rfl)) (fun _ _ _ h => h) (Or.inl ⟨by rfl, ?_⟩) ?_ ?_
                                        rotate_left
                                        · intro w'
                                          go_simp
                                          with_reducible rfl
                                        rotate_left
                                        · simp only [Act.put, List.setIfInBounds_toArray, List.set_cons_zero, List.set_cons_succ, i64_w, i32_w]
                                          rfl
                                        exact norm_ (by first | (simp only [putAll, Act.put, List.setIfInBounds_toArray, List.set_cons_zero, List.set_cons_succ]; done) | (simp only [putAll, Act.put, List.setIfInBounds_toArray, List.set_cons_zero, List.set_cons_succ]; rfl)) (hJ2_6 () _ ⟨(by (with_reducible repeat (first | refine blk_drewN ?_ _ | refine blk_drew ?_ | refine blk_alloc ?_ _)); exact BK580.out), (by repeat (first | (with_reducible first | exact HB.out | apply below_alloc | apply pw_below_drewN | apply below_drew1 | refine below_set ?_ GE580.out) | exact HB.out))⟩)
                                      · skip
                                        refine box_step ?hg (N := 4) ?hd (cs := #[.int .u32 0, .int .u16 0, .int .i64 0, .int .i64 0]) (t := 49) ?hr ?_; (case hd => rfl); (case hg => rfl); (case hr => first | (go_simp; done) | (go_simp; rfl))
                                        intro gb585 hg w38 hbox hb
                                        have n0_ := Aside0.mk (blk_below (g := gb580) (o := .cells #[.int .u32 0, .int .u16 0, .int .i64 0, .int .i64 0] 49 (0, 0)) (by (with_reducible repeat (first | refine blk_drewN ?_ _ | refine blk_drew ?_ | refine blk_alloc ?_ _)); exact BK580.out) hb)
                                        have n1_ := Aside0.mk (below_step (by repeat (first | (with_reducible first | exact HB.out | apply below_alloc | apply pw_below_drewN | apply below_drew1 | refine below_set ?_ GE580.out) | exact HB.out)) hb)
                                        have n2_ := Aside0.mk (hbox)
                                        have n3_ := Aside0.mk ((by rw [hg]; exact (below_size (by repeat (first | (with_reducible first | exact HB.out | apply below_alloc | apply pw_below_drewN | apply below_drew1 | refine below_set ?_ GE580.out) | exact HB.out))) : w.heap.size ≤ gb585))
                                        have n4_ := Aside0.mk ((by rw [hg]; exact (below_size (by repeat (first | (with_reducible first | exact HB.out | apply below_alloc | apply pw_below_drewN | apply below_drew1 | refine below_set ?_ GE580.out) | exact HB.out))) : w.heap.size ≤ gb585))
                                        have n5_ := Aside0.mk ((by rw [hg]; exact Nat.ne_of_lt (blk_lt (g := gb580) (o := .cells #[.int .u32 0, .int .u16 0, .int .i64 0, .int .i64 0] 49 (0, 0)) (by (with_reducible repeat (first | refine blk_drewN ?_ _ | refine blk_drew ?_ | refine blk_alloc ?_ _)); exact BK580.out)) : gb580 ≠ gb585))
                                        have n6_ := Aside0.mk ((by rw [hg]; exact Nat.ne_of_gt (blk_lt (g := gb580) (o := .cells #[.int .u32 0, .int .u16 0, .int .i64 0, .int .i64 0] 49 (0, 0)) (by (with_reducible repeat (first | refine blk_drewN ?_ _ | refine blk_drew ?_ | refine blk_alloc ?_ _)); exact BK580.out)) : gb585 ≠ gb580))
                                        clear BK580
                                        clear HB
                                        have BK580 := n0_
                                        have HB := n1_
                                        have BK585 := n2_
                                        have GW585 := n3_
                                        have GE585 := n4_
                                        have NB580_585 := n5_
                                        have NB585_580 := n6_
                                        clear n0_ n1_ n2_ n3_ n4_ n5_ n6_
                                        clear hb hbox hg
                                        refine hK.out _ _ trivial (fun hHeld => ?_)
                                        clear hK K
                                        refine norm_ (a' := ?_) ?_ ?_
                                        rotate_left
                                        · show Act.put _ (some 4) _ = _
                                          simp only [Act.put, List.setIfInBounds_toArray, List.set_cons_zero, List.set_cons_succ, i64_w, i32_w]
                                          rfl
                                        exact norm_ (by first | (simp only [putAll, Act.put, List.setIfInBounds_toArray, List.set_cons_zero, List.set_cons_succ]; done) | (simp only [putAll, Act.put, List.setIfInBounds_toArray, List.set_cons_zero, List.set_cons_succ]; rfl)) (hJ2_18 (gb585) _ ⟨(by (with_reducible repeat (first | refine blk_drewN ?_ _ | refine blk_drew ?_ | refine blk_alloc ?_ _)); exact BK580.out), (by (with_reducible repeat (first | refine blk_drewN ?_ _ | refine blk_drew ?_ | refine blk_alloc ?_ _)); exact BK585.out), GW585.out, GE585.out, NB580_585.out, NB585_580.out, (by repeat (first | (with_reducible first | exact HB.out | apply below_alloc | apply pw_below_drewN | apply below_drew1 | refine below_set ?_ GE580.out | refine below_set ?_ GE585.out) | exact HB.out))⟩)
                                  · skip
                                    rintro gb585 w38 ⟨h0_, h1_, h2_, h3_, h4_, h5_, h6_⟩
                                    have n0_ : Aside0 (w38.heap[gb580]? = some (.cells #[.int .u32 0, .int .u16 0, .int .i64 0, .int .i64 0] 49 (0, 0))) := ⟨h0_⟩
                                    have n1_ : Aside0 (w38.heap[gb585]? = some (.cells #[.int .u32 0, .int .u16 0, .int .i64 0, .int .i64 0] 49 (0, 0))) := ⟨h1_⟩
                                    have n2_ : Aside0 (w.heap.size ≤ gb585) := ⟨h2_⟩
                                    have n3_ : Aside0 (w.heap.size ≤ gb585) := ⟨h3_⟩
                                    have n4_ : Aside0 (gb580 ≠ gb585) := ⟨h4_⟩
                                    have n5_ : Aside0 (gb585 ≠ gb580) := ⟨h5_⟩
                                    have n6_ : Aside0 (Below w.heap.size w w38) := ⟨h6_⟩
                                    clear BK580
                                    clear HB
                                    clear h0_ h1_ h2_ h3_ h4_ h5_ h6_
                                    have BK580 := n0_
                                    have BK585 := n1_
                                    have GW585 := n2_
                                    have GE585 := n3_
                                    have NB580_585 := n4_
                                    have NB585_580 := n5_
                                    have HB := n6_
                                    clear n0_ n1_ n2_ n3_ n4_ n5_ n6_
                                    have hHeld := trivial
                                    refine norm_ (a' := ?_) ?_ ?_
                                    rotate_left
                                    · simp only [putAll, Act.put, List.setIfInBounds_toArray, List.set_cons_zero, List.set_cons_succ]
                                      rfl
                                    refine one_ (i := 6) (N := some 16) #[true, true, true, true, true, true, true, false, true, true, false, false, false, true, true, false, false, false, true, false] rfl rfl (one_of HT_.out (by kernel_rfl)) (by decide) (fun K hK => ?_)
                                    refine goes_ Tryd.func46 (by kernel_rfl) rfl #[.string (a0.extract 4 6)] (by rfl) rfl rfl (by (try simp only [List.map_toArray, List.map_cons, List.map_nil]); first | done | rfl | (simp only [List.length_drop, List.length_take]; rfl)) ?_
                                    with_reducible refine (bazaarref03_Get.calls k (a0.extract 4 6) t582 _ ?side1 A8.out).mono ?_
                                    (case side1 => exact Laid_below HLD.out (by repeat (first | (with_reducible first | exact HB.out | apply below_alloc | apply pw_below_drewN | apply below_drew1 | refine below_set ?_ GE580.out | refine below_set ?_ GE585.out) | exact HB.out)))
                                    rintro e w39 ⟨rfl, hb⟩
                                    refine ⟨_, rfl, ?_⟩
                                    have n0_ := Aside0.mk (blk_below (g := gb580) (o := .cells #[.int .u32 0, .int .u16 0, .int .i64 0, .int .i64 0] 49 (0, 0)) (by (with_reducible repeat (first | refine blk_drewN ?_ _ | refine blk_drew ?_ | refine blk_alloc ?_ _)); exact BK580.out) hb)
                                    have n1_ := Aside0.mk (blk_below (g := gb585) (o := .cells #[.int .u32 0, .int .u16 0, .int .i64 0, .int .i64 0] 49 (0, 0)) (by (with_reducible repeat (first | refine blk_drewN ?_ _ | refine blk_drew ?_ | refine blk_alloc ?_ _)); exact BK585.out) hb)
                                    have n2_ := Aside0.mk (below_step (by repeat (first | (with_reducible first | exact HB.out | apply below_alloc | apply pw_below_drewN | apply below_drew1 | refine below_set ?_ GE580.out | refine below_set ?_ GE585.out) | exact HB.out)) hb)
                                    clear BK580
                                    clear BK585
                                    clear HB
                                    have BK580 := n0_
                                    have BK585 := n1_
                                    have HB := n2_
                                    clear n0_ n1_ n2_
                                    (try clear hb)
                                    (try clear hb2)
                                    (try clear hk)
                                    (try clear hi)
                                    refine hK.out _ _ trivial (fun hHeld => ?_)
                                    clear hK K
                                    refine norm_ (a' := ?_) ?_ ?_
                                    rotate_left
                                    · show Act.put _ (some 16) _ = _
                                      simp only [Act.put, List.setIfInBounds_toArray, List.set_cons_zero, List.set_cons_succ, i64_w, i32_w]
                                      rfl
                                    refine pure_ (i := 7) (N := some 17) (v := ?_) (a' := ?_) #[true, true, true, true, true, true, true, true, true, true, false, false, false, true, true, false, false, false, true, false] rfl rfl (any_of HT_.out (by kernel_rfl)) (fun _ _ _ h => h) (Or.inl ⟨by rfl, ?_⟩) ?_ ?_
                                    rotate_left
                                    · intro w'
                                      go_simp
                                      with_reducible rfl
                                    rotate_left
                                    · simp only [Act.put, List.setIfInBounds_toArray, List.set_cons_zero, List.set_cons_succ, i64_w, i32_w]
                                      rfl
                                    exact norm_ (by first | (simp only [putAll, Act.put, List.setIfInBounds_toArray, List.set_cons_zero, List.set_cons_succ]; done) | (simp only [putAll, Act.put, List.setIfInBounds_toArray, List.set_cons_zero, List.set_cons_succ]; rfl)) (hJ2_6_18 (gb585) _ ⟨(by (with_reducible repeat (first | refine blk_drewN ?_ _ | refine blk_drew ?_ | refine blk_alloc ?_ _)); exact BK580.out), (by (with_reducible repeat (first | refine blk_drewN ?_ _ | refine blk_drew ?_ | refine blk_alloc ?_ _)); exact BK585.out), GW585.out, GE585.out, NB580_585.out, NB585_580.out, (by repeat (first | (with_reducible first | exact HB.out | apply below_alloc | apply pw_below_drewN | apply below_drew1 | refine below_set ?_ GE580.out | refine below_set ?_ GE585.out) | exact HB.out))⟩)
                                · skip
                                  rintro _ w38 ⟨h0_, h1_⟩
                                  have n0_ : Aside0 (w38.heap[gb580]? = some (.cells #[.int .u32 0, .int .u16 0, .int .i64 0, .int .i64 0] 49 (0, 0))) := ⟨h0_⟩
                                  have n1_ : Aside0 (Below w.heap.size w w38) := ⟨h1_⟩
                                  clear BK580
                                  clear HB
                                  clear h0_ h1_
                                  have BK580 := n0_
                                  have HB := n1_
                                  clear n0_ n1_
                                  have hHeld := trivial
                                  refine norm_ (a' := ?_) ?_ ?_
                                  rotate_left
                                  · simp only [putAll, Act.put, List.setIfInBounds_toArray, List.set_cons_zero, List.set_cons_succ]
                                    rfl
                                  refine two_ (i := 10) (j := 18) (Ni := some 20) (Nj := some 4) #[true, true, true, true, true, true, true, true, true, true, true, false, false, true, true, false, false, false, false, false] #[true, true, true, true, true, true, true, true, true, true, false, false, false, true, true, false, false, false, true, false] rfl rfl rfl rfl (two_of HT_.out (by kernel_rfl)) (by decide) (by decide) (fun K hK => ?_) (fun K hK => ?_)
                                  · skip
                                    refine goes_ Tryd.func46 (by kernel_rfl) rfl #[.string (a0.extract 6 14)] (by rfl) rfl rfl (by (try simp only [List.map_toArray, List.map_cons, List.map_nil]); first | done | rfl | (simp only [List.length_drop, List.length_take]; rfl)) ?_
                                    with_reducible refine (bazaarref03_Get.calls k (a0.extract 6 14) t583 _ ?side1 A11.out).mono ?_
                                    (case side1 => exact Laid_below HLD.out (by repeat (first | (with_reducible first | exact HB.out | apply below_alloc | apply pw_below_drewN | apply below_drew1 | refine below_set ?_ GE580.out) | exact HB.out)))
                                    rintro e w39 ⟨rfl, hb⟩
                                    refine ⟨_, rfl, ?_⟩
                                    have n0_ := Aside0.mk (blk_below (g := gb580) (o := .cells #[.int .u32 0, .int .u16 0, .int .i64 0, .int .i64 0] 49 (0, 0)) (by (with_reducible repeat (first | refine blk_drewN ?_ _ | refine blk_drew ?_ | refine blk_alloc ?_ _)); exact BK580.out) hb)
                                    have n1_ := Aside0.mk (below_step (by repeat (first | (with_reducible first | exact HB.out | apply below_alloc | apply pw_below_drewN | apply below_drew1 | refine below_set ?_ GE580.out) | exact HB.out)) hb)
                                    clear BK580
                                    clear HB
                                    have BK580 := n0_
                                    have HB := n1_
                                    clear n0_ n1_
                                    (try clear hb)
                                    (try clear hb2)
                                    (try clear hk)
                                    (try clear hi)
                                    refine hK.out _ _ trivial (fun hHeld => ?_)
                                    clear hK K
                                    refine norm_ (a' := ?_) ?_ ?_
                                    rotate_left
                                    · show Act.put _ (some 20) _ = _
                                      simp only [Act.put, List.setIfInBounds_toArray, List.set_cons_zero, List.set_cons_succ, i64_w, i32_w]
                                      rfl
                                    refine pure_ (i := 11) (N := some 21) (v := ?_) (a' := ?_) #[true, true, true, true, true, true, true, true, true, true, true, true, false, true, true, false, false, false, false, false] rfl rfl (any_of HT_.out (by kernel_rfl)) (fun _ _ _ h => h) (Or.inl ⟨by rfl, ?_⟩) ?_ ?_
                                    rotate_left
                                    · intro w'
                                      go_simp
                                      with_reducible rfl
                                    rotate_left
                                    · simp only [Act.put, List.setIfInBounds_toArray, List.set_cons_zero, List.set_cons_succ, i64_w, i32_w]
                                      rfl
                                    refine pure_ (i := 12) (N := some 22) (v := ?_) (a' := ?_) #[true, true, true, true, true, true, true, true, true, true, true, true, true, true, true, false, false, false, false, false] rfl rfl (any_of HT_.out (by kernel_rfl)) (fun _ _ _ h => h) (Or.inl ⟨by rfl, ?_⟩) ?_ ?_
                                    rotate_left
                                    · intro w'
                                      go_simp
                                      with_reducible rfl
                                    rotate_left
                                    · simp only [Act.put, List.setIfInBounds_toArray, List.set_cons_zero, List.set_cons_succ, i64_w, i32_w]
                                      rfl
                                    exact norm_ (by first | (simp only [putAll, Act.put, List.setIfInBounds_toArray, List.set_cons_zero, List.set_cons_succ]; done) | (simp only [putAll, Act.put, List.setIfInBounds_toArray, List.set_cons_zero, List.set_cons_succ]; rfl)) (hJ2_6_10 () _ ⟨(by (with_reducible repeat (first | refine blk_drewN ?_ _ | refine blk_drew ?_ | refine blk_alloc ?_ _)); exact BK580.out), (by repeat (first | (with_reducible first | exact HB.out | apply below_alloc | apply pw_below_drewN | apply below_drew1 | refine below_set ?_ GE580.out) | exact HB.out))⟩)
                                  · skip
                                    refine box_step ?hg (N := 4) ?hd (cs := #[.int .u32 0, .int .u16 0, .int .i64 0, .int .i64 0]) (t := 49) ?hr ?_; (case hd => rfl); (case hg => rfl); (case hr => first | (go_simp; done) | (go_simp; rfl))
                                    intro gb585 hg w39 hbox hb
                                    have n0_ := Aside0.mk (blk_below (g := gb580) (o := .cells #[.int .u32 0, .int .u16 0, .int .i64 0, .int .i64 0] 49 (0, 0)) (by (with_reducible repeat (first | refine blk_drewN ?_ _ | refine blk_drew ?_ | refine blk_alloc ?_ _)); exact BK580.out) hb)
                                    have n1_ := Aside0.mk (below_step (by repeat (first | (with_reducible first | exact HB.out | apply below_alloc | apply pw_below_drewN | apply below_drew1 | refine below_set ?_ GE580.out) | exact HB.out)) hb)
                                    have n2_ := Aside0.mk (hbox)
                                    have n3_ := Aside0.mk ((by rw [hg]; exact (below_size (by repeat (first | (with_reducible first | exact HB.out | apply below_alloc | apply pw_below_drewN | apply below_drew1 | refine below_set ?_ GE580.out) | exact HB.out))) : w.heap.size ≤ gb585))
                                    have n4_ := Aside0.mk ((by rw [hg]; exact (below_size (by repeat (first | (with_reducible first | exact HB.out | apply below_alloc | apply pw_below_drewN | apply below_drew1 | refine below_set ?_ GE580.out) | exact HB.out))) : w.heap.size ≤ gb585))
                                    have n5_ := Aside0.mk ((by rw [hg]; exact Nat.ne_of_lt (blk_lt (g := gb580) (o := .cells #[.int .u32 0, .int .u16 0, .int .i64 0, .int .i64 0] 49 (0, 0)) (by (with_reducible repeat (first | refine blk_drewN ?_ _ | refine blk_drew ?_ | refine blk_alloc ?_ _)); exact BK580.out)) : gb580 ≠ gb585))
                                    have n6_ := Aside0.mk ((by rw [hg]; exact Nat.ne_of_gt (blk_lt (g := gb580) (o := .cells #[.int .u32 0, .int .u16 0, .int .i64 0, .int .i64 0] 49 (0, 0)) (by (with_reducible repeat (first | refine blk_drewN ?_ _ | refine blk_drew ?_ | refine blk_alloc ?_ _)); exact BK580.out)) : gb585 ≠ gb580))
                                    clear BK580
                                    clear HB
                                    have BK580 := n0_
                                    have HB := n1_
                                    have BK585 := n2_
                                    have GW585 := n3_
                                    have GE585 := n4_
                                    have NB580_585 := n5_
                                    have NB585_580 := n6_
                                    clear n0_ n1_ n2_ n3_ n4_ n5_ n6_
                                    clear hb hbox hg
                                    refine hK.out _ _ trivial (fun hHeld => ?_)
                                    clear hK K
                                    refine norm_ (a' := ?_) ?_ ?_
                                    rotate_left
                                    · show Act.put _ (some 4) _ = _
                                      simp only [Act.put, List.setIfInBounds_toArray, List.set_cons_zero, List.set_cons_succ, i64_w, i32_w]
                                      rfl
                                    exact norm_ (by first | (simp only [putAll, Act.put, List.setIfInBounds_toArray, List.set_cons_zero, List.set_cons_succ]; done) | (simp only [putAll, Act.put, List.setIfInBounds_toArray, List.set_cons_zero, List.set_cons_succ]; rfl)) (hJ2_6_18 (gb585) _ ⟨(by (with_reducible repeat (first | refine blk_drewN ?_ _ | refine blk_drew ?_ | refine blk_alloc ?_ _)); exact BK580.out), (by (with_reducible repeat (first | refine blk_drewN ?_ _ | refine blk_drew ?_ | refine blk_alloc ?_ _)); exact BK585.out), GW585.out, GE585.out, NB580_585.out, NB585_580.out, (by repeat (first | (with_reducible first | exact HB.out | apply below_alloc | apply pw_below_drewN | apply below_drew1 | refine below_set ?_ GE580.out | refine below_set ?_ GE585.out) | exact HB.out))⟩)
                              · skip
                                rintro gb585 w39 ⟨h0_, h1_, h2_, h3_, h4_, h5_, h6_⟩
                                have n0_ : Aside0 (w39.heap[gb580]? = some (.cells #[.int .u32 0, .int .u16 0, .int .i64 0, .int .i64 0] 49 (0, 0))) := ⟨h0_⟩
                                have n1_ : Aside0 (w39.heap[gb585]? = some (.cells #[.int .u32 0, .int .u16 0, .int .i64 0, .int .i64 0] 49 (0, 0))) := ⟨h1_⟩
                                have n2_ : Aside0 (w.heap.size ≤ gb585) := ⟨h2_⟩
                                have n3_ : Aside0 (w.heap.size ≤ gb585) := ⟨h3_⟩
                                have n4_ : Aside0 (gb580 ≠ gb585) := ⟨h4_⟩
                                have n5_ : Aside0 (gb585 ≠ gb580) := ⟨h5_⟩
                                have n6_ : Aside0 (Below w.heap.size w w39) := ⟨h6_⟩
                                clear BK580
                                clear HB
                                clear h0_ h1_ h2_ h3_ h4_ h5_ h6_
                                have BK580 := n0_
                                have BK585 := n1_
                                have GW585 := n2_
                                have GE585 := n3_
                                have NB580_585 := n4_
                                have NB585_580 := n5_
                                have HB := n6_
                                clear n0_ n1_ n2_ n3_ n4_ n5_ n6_
                                have hHeld := trivial
                                refine norm_ (a' := ?_) ?_ ?_
                                rotate_left
                                · simp only [putAll, Act.put, List.setIfInBounds_toArray, List.set_cons_zero, List.set_cons_succ]
                                  rfl
                                refine one_ (i := 10) (N := some 20) #[true, true, true, true, true, true, true, true, true, true, true, false, false, true, true, false, false, false, true, false] rfl rfl (one_of HT_.out (by kernel_rfl)) (by decide) (fun K hK => ?_)
                                refine goes_ Tryd.func46 (by kernel_rfl) rfl #[.string (a0.extract 6 14)] (by rfl) rfl rfl (by (try simp only [List.map_toArray, List.map_cons, List.map_nil]); first | done | rfl | (simp only [List.length_drop, List.length_take]; rfl)) ?_
                                with_reducible refine (bazaarref03_Get.calls k (a0.extract 6 14) t583 _ ?side1 A11.out).mono ?_
                                (case side1 => exact Laid_below HLD.out (by repeat (first | (with_reducible first | exact HB.out | apply below_alloc | apply pw_below_drewN | apply below_drew1 | refine below_set ?_ GE580.out | refine below_set ?_ GE585.out) | exact HB.out)))
                                rintro e w40 ⟨rfl, hb⟩
                                refine ⟨_, rfl, ?_⟩
                                have n0_ := Aside0.mk (blk_below (g := gb580) (o := .cells #[.int .u32 0, .int .u16 0, .int .i64 0, .int .i64 0] 49 (0, 0)) (by (with_reducible repeat (first | refine blk_drewN ?_ _ | refine blk_drew ?_ | refine blk_alloc ?_ _)); exact BK580.out) hb)
                                have n1_ := Aside0.mk (blk_below (g := gb585) (o := .cells #[.int .u32 0, .int .u16 0, .int .i64 0, .int .i64 0] 49 (0, 0)) (by (with_reducible repeat (first | refine blk_drewN ?_ _ | refine blk_drew ?_ | refine blk_alloc ?_ _)); exact BK585.out) hb)
                                have n2_ := Aside0.mk (below_step (by repeat (first | (with_reducible first | exact HB.out | apply below_alloc | apply pw_below_drewN | apply below_drew1 | refine below_set ?_ GE580.out | refine below_set ?_ GE585.out) | exact HB.out)) hb)
                                clear BK580
                                clear BK585
                                clear HB
                                have BK580 := n0_
                                have BK585 := n1_
                                have HB := n2_
                                clear n0_ n1_ n2_
                                (try clear hb)
                                (try clear hb2)
                                (try clear hk)
                                (try clear hi)
                                refine hK.out _ _ trivial (fun hHeld => ?_)
                                clear hK K
                                refine norm_ (a' := ?_) ?_ ?_
                                rotate_left
                                · show Act.put _ (some 20) _ = _
                                  simp only [Act.put, List.setIfInBounds_toArray, List.set_cons_zero, List.set_cons_succ, i64_w, i32_w]
                                  rfl
                                refine pure_ (i := 11) (N := some 21) (v := ?_) (a' := ?_) #[true, true, true, true, true, true, true, true, true, true, true, true, false, true, true, false, false, false, true, false] rfl rfl (any_of HT_.out (by kernel_rfl)) (fun _ _ _ h => h) (Or.inl ⟨by rfl, ?_⟩) ?_ ?_
                                rotate_left
                                · intro w'
                                  go_simp
                                  with_reducible rfl
                                rotate_left
                                · simp only [Act.put, List.setIfInBounds_toArray, List.set_cons_zero, List.set_cons_succ, i64_w, i32_w]
                                  rfl
                                refine pure_ (i := 12) (N := some 22) (v := ?_) (a' := ?_) #[true, true, true, true, true, true, true, true, true, true, true, true, true, true, true, false, false, false, true, false] rfl rfl (any_of HT_.out (by kernel_rfl)) (fun _ _ _ h => h) (Or.inl ⟨by rfl, ?_⟩) ?_ ?_
                                rotate_left
                                · intro w'
                                  go_simp
                                  with_reducible rfl
                                rotate_left
                                · simp only [Act.put, List.setIfInBounds_toArray, List.set_cons_zero, List.set_cons_succ, i64_w, i32_w]
                                  rfl
                                exact norm_ (by first | (simp only [putAll, Act.put, List.setIfInBounds_toArray, List.set_cons_zero, List.set_cons_succ]; done) | (simp only [putAll, Act.put, List.setIfInBounds_toArray, List.set_cons_zero, List.set_cons_succ]; rfl)) (hJ2_6_10_18 (gb585) _ ⟨(by (with_reducible repeat (first | refine blk_drewN ?_ _ | refine blk_drew ?_ | refine blk_alloc ?_ _)); exact BK580.out), (by (with_reducible repeat (first | refine blk_drewN ?_ _ | refine blk_drew ?_ | refine blk_alloc ?_ _)); exact BK585.out), GW585.out, GE585.out, NB580_585.out, NB585_580.out, (by repeat (first | (with_reducible first | exact HB.out | apply below_alloc | apply pw_below_drewN | apply below_drew1 | refine below_set ?_ GE580.out | refine below_set ?_ GE585.out) | exact HB.out))⟩)
                            · skip
                              rintro _ w39 ⟨h0_, h1_⟩
                              have n0_ : Aside0 (w39.heap[gb580]? = some (.cells #[.int .u32 0, .int .u16 0, .int .i64 0, .int .i64 0] 49 (0, 0))) := ⟨h0_⟩
                              have n1_ : Aside0 (Below w.heap.size w w39) := ⟨h1_⟩
                              clear BK580
                              clear HB
                              clear h0_ h1_
                              have BK580 := n0_
                              have HB := n1_
                              clear n0_ n1_
                              have hHeld := trivial
                              refine norm_ (a' := ?_) ?_ ?_
                              rotate_left
                              · simp only [putAll, Act.put, List.setIfInBounds_toArray, List.set_cons_zero, List.set_cons_succ]
                                rfl
                              refine two_ (i := 15) (j := 18) (Ni := some 25) (Nj := some 4) #[true, true, true, true, true, true, true, true, true, true, true, true, true, true, true, true, false, false, false, false] #[true, true, true, true, true, true, true, true, true, true, true, true, true, true, true, false, false, false, true, false] rfl rfl rfl rfl (two_of HT_.out (by kernel_rfl)) (by decide) (by decide) (fun K hK => ?_) (fun K hK => ?_)
                              · skip
                                refine goes_ Tryd.func46 (by kernel_rfl) rfl #[.string (a0.extract 14 22)] (by rfl) rfl rfl (by (try simp only [List.map_toArray, List.map_cons, List.map_nil]); first | done | rfl | (simp only [List.length_drop, List.length_take]; rfl)) ?_
                                with_reducible refine (bazaarref03_Get.calls k (a0.extract 14 22) t584 _ ?side1 A14.out).mono ?_
                                (case side1 => exact Laid_below HLD.out (by repeat (first | (with_reducible first | exact HB.out | apply below_alloc | apply pw_below_drewN | apply below_drew1 | refine below_set ?_ GE580.out) | exact HB.out)))
                                rintro e w40 ⟨rfl, hb⟩
                                refine ⟨_, rfl, ?_⟩
                                have n0_ := Aside0.mk (blk_below (g := gb580) (o := .cells #[.int .u32 0, .int .u16 0, .int .i64 0, .int .i64 0] 49 (0, 0)) (by (with_reducible repeat (first | refine blk_drewN ?_ _ | refine blk_drew ?_ | refine blk_alloc ?_ _)); exact BK580.out) hb)
                                have n1_ := Aside0.mk (below_step (by repeat (first | (with_reducible first | exact HB.out | apply below_alloc | apply pw_below_drewN | apply below_drew1 | refine below_set ?_ GE580.out) | exact HB.out)) hb)
                                clear BK580
                                clear HB
                                have BK580 := n0_
                                have HB := n1_
                                clear n0_ n1_
                                (try clear hb)
                                (try clear hb2)
                                (try clear hk)
                                (try clear hi)
                                refine hK.out _ _ trivial (fun hHeld => ?_)
                                clear hK K
                                refine norm_ (a' := ?_) ?_ ?_
                                rotate_left
                                · show Act.put _ (some 25) _ = _
                                  simp only [Act.put, List.setIfInBounds_toArray, List.set_cons_zero, List.set_cons_succ, i64_w, i32_w]
                                  rfl
                                refine pure_ (i := 16) (N := some 26) (v := ?_) (a' := ?_) #[true, true, true, true, true, true, true, true, true, true, true, true, true, true, true, true, true, false, false, false] rfl rfl (any_of HT_.out (by kernel_rfl)) (fun _ _ _ h => h) (Or.inl ⟨by rfl, ?_⟩) ?_ ?_
                                rotate_left
                                · intro w'
                                  go_simp
                                  with_reducible rfl
                                rotate_left
                                · simp only [Act.put, List.setIfInBounds_toArray, List.set_cons_zero, List.set_cons_succ, i64_w, i32_w]
                                  rfl
                                refine pure_ (i := 17) (N := some 27) (v := ?_) (a' := ?_) #[true, true, true, true, true, true, true, true, true, true, true, true, true, true, true, true, true, true, false, false] rfl rfl (any_of HT_.out (by kernel_rfl)) (fun _ _ _ h => h) (Or.inl ⟨by rfl, ?_⟩) ?_ ?_
                                rotate_left
                                · intro w'
                                  go_simp
                                  with_reducible rfl
                                rotate_left
                                · simp only [Act.put, List.setIfInBounds_toArray, List.set_cons_zero, List.set_cons_succ, i64_w, i32_w]
                                  rfl
                                exact norm_ (by first | (simp only [putAll, Act.put, List.setIfInBounds_toArray, List.set_cons_zero, List.set_cons_succ]; done) | (simp only [putAll, Act.put, List.setIfInBounds_toArray, List.set_cons_zero, List.set_cons_succ]; rfl)) (hJ2_6_10_15 () _ ⟨(by (with_reducible repeat (first | refine blk_drewN ?_ _ | refine blk_drew ?_ | refine blk_alloc ?_ _)); exact BK580.out), (by repeat (first | (with_reducible first | exact HB.out | apply below_alloc | apply pw_below_drewN | apply below_drew1 | refine below_set ?_ GE580.out) | exact HB.out))⟩)
                              · skip
                                refine box_step ?hg (N := 4) ?hd (cs := #[.int .u32 0, .int .u16 0, .int .i64 0, .int .i64 0]) (t := 49) ?hr ?_; (case hd => rfl); (case hg => rfl); (case hr => first | (go_simp; done) | (go_simp; rfl))
                                intro gb585 hg w40 hbox hb
                                have n0_ := Aside0.mk (blk_below (g := gb580) (o := .cells #[.int .u32 0, .int .u16 0, .int .i64 0, .int .i64 0] 49 (0, 0)) (by (with_reducible repeat (first | refine blk_drewN ?_ _ | refine blk_drew ?_ | refine blk_alloc ?_ _)); exact BK580.out) hb)
                                have n1_ := Aside0.mk (below_step (by repeat (first | (with_reducible first | exact HB.out | apply below_alloc | apply pw_below_drewN | apply below_drew1 | refine below_set ?_ GE580.out) | exact HB.out)) hb)
                                have n2_ := Aside0.mk (hbox)
                                have n3_ := Aside0.mk ((by rw [hg]; exact (below_size (by repeat (first | (with_reducible first | exact HB.out | apply below_alloc | apply pw_below_drewN | apply below_drew1 | refine below_set ?_ GE580.out) | exact HB.out))) : w.heap.size ≤ gb585))
                                have n4_ := Aside0.mk ((by rw [hg]; exact (below_size (by repeat (first | (with_reducible first | exact HB.out | apply below_alloc | apply pw_below_drewN | apply below_drew1 | refine below_set ?_ GE580.out) | exact HB.out))) : w.heap.size ≤ gb585))
                                have n5_ := Aside0.mk ((by rw [hg]; exact Nat.ne_of_lt (blk_lt (g := gb580) (o := .cells #[.int .u32 0, .int .u16 0, .int .i64 0, .int .i64 0] 49 (0, 0)) (by (with_reducible repeat (first | refine blk_drewN ?_ _ | refine blk_drew ?_ | refine blk_alloc ?_ _)); exact BK580.out)) : gb580 ≠ gb585))
                                have n6_ := Aside0.mk ((by rw [hg]; exact Nat.ne_of_gt (blk_lt (g := gb580) (o := .cells #[.int .u32 0, .int .u16 0, .int .i64 0, .int .i64 0] 49 (0, 0)) (by (with_reducible repeat (first | refine blk_drewN ?_ _ | refine blk_drew ?_ | refine blk_alloc ?_ _)); exact BK580.out)) : gb585 ≠ gb580))
                                clear BK580
                                clear HB
                                have BK580 := n0_
                                have HB := n1_
                                have BK585 := n2_
                                have GW585 := n3_
                                have GE585 := n4_
                                have NB580_585 := n5_
                                have NB585_580 := n6_
                                clear n0_ n1_ n2_ n3_ n4_ n5_ n6_
                                clear hb hbox hg
                                refine hK.out _ _ trivial (fun hHeld => ?_)
                                clear hK K
                                refine norm_ (a' := ?_) ?_ ?_
                                rotate_left
                                · show Act.put _ (some 4) _ = _
                                  simp only [Act.put, List.setIfInBounds_toArray, List.set_cons_zero, List.set_cons_succ, i64_w, i32_w]
                                  rfl
                                exact norm_ (by first | (simp only [putAll, Act.put, List.setIfInBounds_toArray, List.set_cons_zero, List.set_cons_succ]; done) | (simp only [putAll, Act.put, List.setIfInBounds_toArray, List.set_cons_zero, List.set_cons_succ]; rfl)) (hJ2_6_10_18 (gb585) _ ⟨(by (with_reducible repeat (first | refine blk_drewN ?_ _ | refine blk_drew ?_ | refine blk_alloc ?_ _)); exact BK580.out), (by (with_reducible repeat (first | refine blk_drewN ?_ _ | refine blk_drew ?_ | refine blk_alloc ?_ _)); exact BK585.out), GW585.out, GE585.out, NB580_585.out, NB585_580.out, (by repeat (first | (with_reducible first | exact HB.out | apply below_alloc | apply pw_below_drewN | apply below_drew1 | refine below_set ?_ GE580.out | refine below_set ?_ GE585.out) | exact HB.out))⟩)
                          · skip
                            rintro gb585 w40 ⟨h0_, h1_, h2_, h3_, h4_, h5_, h6_⟩
                            have n0_ : Aside0 (w40.heap[gb580]? = some (.cells #[.int .u32 0, .int .u16 0, .int .i64 0, .int .i64 0] 49 (0, 0))) := ⟨h0_⟩
                            have n1_ : Aside0 (w40.heap[gb585]? = some (.cells #[.int .u32 0, .int .u16 0, .int .i64 0, .int .i64 0] 49 (0, 0))) := ⟨h1_⟩
                            have n2_ : Aside0 (w.heap.size ≤ gb585) := ⟨h2_⟩
                            have n3_ : Aside0 (w.heap.size ≤ gb585) := ⟨h3_⟩
                            have n4_ : Aside0 (gb580 ≠ gb585) := ⟨h4_⟩
                            have n5_ : Aside0 (gb585 ≠ gb580) := ⟨h5_⟩
                            have n6_ : Aside0 (Below w.heap.size w w40) := ⟨h6_⟩
                            clear BK580
                            clear HB
                            clear h0_ h1_ h2_ h3_ h4_ h5_ h6_
                            have BK580 := n0_
                            have BK585 := n1_
                            have GW585 := n2_
                            have GE585 := n3_
                            have NB580_585 := n4_
                            have NB585_580 := n5_
                            have HB := n6_
                            clear n0_ n1_ n2_ n3_ n4_ n5_ n6_
                            have hHeld := trivial
                            refine norm_ (a' := ?_) ?_ ?_
                            rotate_left
                            · simp only [putAll, Act.put, List.setIfInBounds_toArray, List.set_cons_zero, List.set_cons_succ]
                              rfl
                            refine one_ (i := 15) (N := some 25) #[true, true, true, true, true, true, true, true, true, true, true, true, true, true, true, true, false, false, true, false] rfl rfl (one_of HT_.out (by kernel_rfl)) (by decide) (fun K hK => ?_)
                            refine goes_ Tryd.func46 (by kernel_rfl) rfl #[.string (a0.extract 14 22)] (by rfl) rfl rfl (by (try simp only [List.map_toArray, List.map_cons, List.map_nil]); first | done | rfl | (simp only [List.length_drop, List.length_take]; rfl)) ?_
                            with_reducible refine (bazaarref03_Get.calls k (a0.extract 14 22) t584 _ ?side1 A14.out).mono ?_
                            (case side1 => exact Laid_below HLD.out (by repeat (first | (with_reducible first | exact HB.out | apply below_alloc | apply pw_below_drewN | apply below_drew1 | refine below_set ?_ GE580.out | refine below_set ?_ GE585.out) | exact HB.out)))
                            rintro e w41 ⟨rfl, hb⟩
                            refine ⟨_, rfl, ?_⟩
                            have n0_ := Aside0.mk (blk_below (g := gb580) (o := .cells #[.int .u32 0, .int .u16 0, .int .i64 0, .int .i64 0] 49 (0, 0)) (by (with_reducible repeat (first | refine blk_drewN ?_ _ | refine blk_drew ?_ | refine blk_alloc ?_ _)); exact BK580.out) hb)
                            have n1_ := Aside0.mk (blk_below (g := gb585) (o := .cells #[.int .u32 0, .int .u16 0, .int .i64 0, .int .i64 0] 49 (0, 0)) (by (with_reducible repeat (first | refine blk_drewN ?_ _ | refine blk_drew ?_ | refine blk_alloc ?_ _)); exact BK585.out) hb)
                            have n2_ := Aside0.mk (below_step (by repeat (first | (with_reducible first | exact HB.out | apply below_alloc | apply pw_below_drewN | apply below_drew1 | refine below_set ?_ GE580.out | refine below_set ?_ GE585.out) | exact HB.out)) hb)
                            clear BK580
                            clear BK585
                            clear HB
                            have BK580 := n0_
                            have BK585 := n1_
                            have HB := n2_
                            clear n0_ n1_ n2_
                            (try clear hb)
                            (try clear hb2)
                            (try clear hk)
                            (try clear hi)
                            refine hK.out _ _ trivial (fun hHeld => ?_)
                            clear hK K
                            refine norm_ (a' := ?_) ?_ ?_
                            rotate_left
                            · show Act.put _ (some 25) _ = _
                              simp only [Act.put, List.setIfInBounds_toArray, List.set_cons_zero, List.set_cons_succ, i64_w, i32_w]
                              rfl
                            refine pure_ (i := 16) (N := some 26) (v := ?_) (a' := ?_) #[true, true, true, true, true, true, true, true, true, true, true, true, true, true, true, true, true, false, true, false] rfl rfl (any_of HT_.out (by kernel_rfl)) (fun _ _ _ h => h) (Or.inl ⟨by rfl, ?_⟩) ?_ ?_
                            rotate_left
                            · intro w'
                              go_simp
                              with_reducible rfl
                            rotate_left
                            · simp only [Act.put, List.setIfInBounds_toArray, List.set_cons_zero, List.set_cons_succ, i64_w, i32_w]
                              rfl
                            refine pure_ (i := 17) (N := some 27) (v := ?_) (a' := ?_) #[true, true, true, true, true, true, true, true, true, true, true, true, true, true, true, true, true, true, true, false] rfl rfl (any_of HT_.out (by kernel_rfl)) (fun _ _ _ h => h) (Or.inl ⟨by rfl, ?_⟩) ?_ ?_
                            rotate_left
                            · intro w'
                              go_simp
                              with_reducible rfl
                            rotate_left
                            · simp only [Act.put, List.setIfInBounds_toArray, List.set_cons_zero, List.set_cons_succ, i64_w, i32_w]
                              rfl
                            exact norm_ (by first | (simp only [putAll, Act.put, List.setIfInBounds_toArray, List.set_cons_zero, List.set_cons_succ]; done) | (simp only [putAll, Act.put, List.setIfInBounds_toArray, List.set_cons_zero, List.set_cons_succ]; rfl)) (hJ2_6_10_15_18 (gb585) _ ⟨(by (with_reducible repeat (first | refine blk_drewN ?_ _ | refine blk_drew ?_ | refine blk_alloc ?_ _)); exact BK580.out), (by (with_reducible repeat (first | refine blk_drewN ?_ _ | refine blk_drew ?_ | refine blk_alloc ?_ _)); exact BK585.out), GW585.out, GE585.out, NB580_585.out, NB585_580.out, (by repeat (first | (with_reducible first | exact HB.out | apply below_alloc | apply pw_below_drewN | apply below_drew1 | refine below_set ?_ GE580.out | refine below_set ?_ GE585.out) | exact HB.out))⟩)
                        · skip
                          rintro _ w40 ⟨h0_, h1_⟩
                          have n0_ : Aside0 (w40.heap[gb580]? = some (.cells #[.int .u32 0, .int .u16 0, .int .i64 0, .int .i64 0] 49 (0, 0))) := ⟨h0_⟩
                          have n1_ : Aside0 (Below w.heap.size w w40) := ⟨h1_⟩
                          clear BK580
                          clear HB
                          clear h0_ h1_
                          have BK580 := n0_
                          have HB := n1_
                          clear n0_ n1_
                          have hHeld := trivial
                          refine norm_ (a' := ?_) ?_ ?_
                          rotate_left
                          · simp only [putAll, Act.put, List.setIfInBounds_toArray, List.set_cons_zero, List.set_cons_succ]
                            rfl
                          refine one_ (i := 18) (N := some 4) #[true, true, true, true, true, true, true, true, true, true, true, true, true, true, true, true, true, true, true, false] rfl rfl (one_of HT_.out (by kernel_rfl)) (by decide) (fun K hK => ?_)
                          refine box_step ?hg (N := 4) ?hd (cs := #[.int .u32 0, .int .u16 0, .int .i64 0, .int .i64 0]) (t := 49) ?hr ?_; (case hd => rfl); (case hg => rfl); (case hr => first | (go_simp; done) | (go_simp; rfl))
                          intro gb585 hg w41 hbox hb
                          have n0_ := Aside0.mk (blk_below (g := gb580) (o := .cells #[.int .u32 0, .int .u16 0, .int .i64 0, .int .i64 0] 49 (0, 0)) (by (with_reducible repeat (first | refine blk_drewN ?_ _ | refine blk_drew ?_ | refine blk_alloc ?_ _)); exact BK580.out) hb)
                          have n1_ := Aside0.mk (below_step (by repeat (first | (with_reducible first | exact HB.out | apply below_alloc | apply pw_below_drewN | apply below_drew1 | refine below_set ?_ GE580.out) | exact HB.out)) hb)
                          have n2_ := Aside0.mk (hbox)
                          have n3_ := Aside0.mk ((by rw [hg]; exact (below_size (by repeat (first | (with_reducible first | exact HB.out | apply below_alloc | apply pw_below_drewN | apply below_drew1 | refine below_set ?_ GE580.out) | exact HB.out))) : w.heap.size ≤ gb585))
                          have n4_ := Aside0.mk ((by rw [hg]; exact (below_size (by repeat (first | (with_reducible first | exact HB.out | apply below_alloc | apply pw_below_drewN | apply below_drew1 | refine below_set ?_ GE580.out) | exact HB.out))) : w.heap.size ≤ gb585))
                          have n5_ := Aside0.mk ((by rw [hg]; exact Nat.ne_of_lt (blk_lt (g := gb580) (o := .cells #[.int .u32 0, .int .u16 0, .int .i64 0, .int .i64 0] 49 (0, 0)) (by (with_reducible repeat (first | refine blk_drewN ?_ _ | refine blk_drew ?_ | refine blk_alloc ?_ _)); exact BK580.out)) : gb580 ≠ gb585))
                          have n6_ := Aside0.mk ((by rw [hg]; exact Nat.ne_of_gt (blk_lt (g := gb580) (o := .cells #[.int .u32 0, .int .u16 0, .int .i64 0, .int .i64 0] 49 (0, 0)) (by (with_reducible repeat (first | refine blk_drewN ?_ _ | refine blk_drew ?_ | refine blk_alloc ?_ _)); exact BK580.out)) : gb585 ≠ gb580))
                          clear BK580
                          clear HB
                          have BK580 := n0_
                          have HB := n1_
                          have BK585 := n2_
                          have GW585 := n3_
                          have GE585 := n4_
                          have NB580_585 := n5_
                          have NB585_580 := n6_
                          clear n0_ n1_ n2_ n3_ n4_ n5_ n6_
                          clear hb hbox hg
                          refine hK.out _ _ trivial (fun hHeld => ?_)
                          clear hK K
                          refine norm_ (a' := ?_) ?_ ?_
                          rotate_left
                          · show Act.put _ (some 4) _ = _
                            simp only [Act.put, List.setIfInBounds_toArray, List.set_cons_zero, List.set_cons_succ, i64_w, i32_w]
                            rfl
                          exact norm_ (by first | (simp only [putAll, Act.put, List.setIfInBounds_toArray, List.set_cons_zero, List.set_cons_succ]; done) | (simp only [putAll, Act.put, List.setIfInBounds_toArray, List.set_cons_zero, List.set_cons_succ]; rfl)) (hJ2_6_10_15_18 (gb585) _ ⟨(by (with_reducible repeat (first | refine blk_drewN ?_ _ | refine blk_drew ?_ | refine blk_alloc ?_ _)); exact BK580.out), (by (with_reducible repeat (first | refine blk_drewN ?_ _ | refine blk_drew ?_ | refine blk_alloc ?_ _)); exact BK585.out), GW585.out, GE585.out, NB580_585.out, NB585_580.out, (by repeat (first | (with_reducible first | exact HB.out | apply below_alloc | apply pw_below_drewN | apply below_drew1 | refine below_set ?_ GE580.out | refine below_set ?_ GE585.out) | exact HB.out))⟩)
                      rintro gb585 w41 ⟨h0_, h1_, h2_, h3_, h4_, h5_, h6_⟩
                      have n0_ : Aside0 (w41.heap[gb580]? = some (.cells #[.int .u32 0, .int .u16 0, .int .i64 0, .int .i64 0] 49 (0, 0))) := ⟨h0_⟩
                      have n1_ : Aside0 (w41.heap[gb585]? = some (.cells #[.int .u32 0, .int .u16 0, .int .i64 0, .int .i64 0] 49 (0, 0))) := ⟨h1_⟩
                      have n2_ : Aside0 (w.heap.size ≤ gb585) := ⟨h2_⟩
                      have n3_ : Aside0 (w.heap.size ≤ gb585) := ⟨h3_⟩
                      have n4_ : Aside0 (gb580 ≠ gb585) := ⟨h4_⟩
                      have n5_ : Aside0 (gb585 ≠ gb580) := ⟨h5_⟩
                      have n6_ : Aside0 (Below w.heap.size w w41) := ⟨h6_⟩
                      clear BK580
                      clear HB
                      clear h0_ h1_ h2_ h3_ h4_ h5_ h6_
                      have BK580 := n0_
                      have BK585 := n1_
                      have GW585 := n2_
                      have GE585 := n3_
                      have NB580_585 := n4_
                      have NB585_580 := n5_
                      have HB := n6_
                      clear n0_ n1_ n2_ n3_ n4_ n5_ n6_
                      have hHeld := trivial
                      refine norm_ (a' := ?_) ?_ ?_
                      rotate_left
                      · simp only [putAll, Act.put, List.setIfInBounds_toArray, List.set_cons_zero, List.set_cons_succ]
                        rfl
                      refine one_ (i := 19) (N := none) #[true, true, true, true, true, true, true, true, true, true, true, true, true, true, true, true, true, true, true, true] rfl rfl (one_of HT_.out (by kernel_rfl)) (by decide) (fun K hK => ?_)
                      have hs42 : w41.cell? ⟨gb585, 0, none⟩ = some (.int .u32 0) := (blk_cell BK585.out 0).trans rfl
                      have hfs42 := blk_frozen BK585.out 0
                      have hns42_0 := NB580_585.out
                      have hms42_0 := NB585_580.out
                      have hs43 : w41.cell? ⟨gb585, 1, none⟩ = some (.int .u16 0) := (blk_cell BK585.out 1).trans rfl
                      have hfs43 := blk_frozen BK585.out 1
                      have hns43_0 := NB580_585.out
                      have hms43_0 := NB585_580.out
                      have hs44 : w41.cell? ⟨gb585, 2, none⟩ = some (.int .i64 0) := (blk_cell BK585.out 2).trans rfl
                      have hfs44 := blk_frozen BK585.out 2
                      have hns44_0 := NB580_585.out
                      have hms44_0 := NB585_580.out
                      have hs45 : w41.cell? ⟨gb585, 3, none⟩ = some (.int .i64 0) := (blk_cell BK585.out 3).trans rfl
                      have hfs45 := blk_frozen BK585.out 3
                      have hns45_0 := NB580_585.out
                      have hms45_0 := NB585_580.out
                      refine skip_ (w1 := ?_) (by rfl) rfl ?_ ?_
                      rotate_left
                      · go_simp
                        rfl
                      refine hK.out _ _ trivial (fun hHeld => ?_)
                      clear hK K
                      refine done_ (done_of HT_.out (by kernel_rfl)) ?_
                      have hnb46 := NB585_580.out
                      have hnc46 := NB580_585.out
                      have hcz47_0 : w41.cell? ⟨gb585, 0, none⟩ = some (.int .u32 0) := (blk_cell BK585.out 0).trans rfl
                      have hcz47_1 : w41.cell? ⟨gb585, 1, none⟩ = some (.int .u16 0) := (blk_cell BK585.out 1).trans rfl
                      have hcz47_2 : w41.cell? ⟨gb585, 2, none⟩ = some (.int .i64 0) := (blk_cell BK585.out 2).trans rfl
                      have hcz47_3 : w41.cell? ⟨gb585, 3, none⟩ = some (.int .i64 0) := (blk_cell BK585.out 3).trans rfl
                      have hfz47_0 := blk_frozen BK585.out 0
                      have hfz47_1 := blk_frozen BK585.out 1
                      have hfz47_2 := blk_frozen BK585.out 2
                      have hfz47_3 := blk_frozen BK585.out 3
                      try go_wp2_with (first | ((with_reducible refine gate_callee (f := 42) rfl ?_); refine goesL_ (some 29) rfl rfl Tryd.func42 (by kernel_rfl) rfl #[.agg #[.int .u32 ((t581) % 4294967296), .int .u16 (IntKind.u16.wrap (t582)), .int .i64 (wrap64 (t583)), .int .i64 (wrap64 (t584))]] rfl (by (try simp only [List.map_toArray, List.map_cons, List.map_nil]); first | done | rfl | (simp only [List.length_drop, List.length_take]; rfl)) ?_; (with_reducible refine (bazaarref15_Right.calls ((t581) % 4294967296) (IntKind.u16.wrap (t582)) (wrap64 (t583)) (wrap64 (t584)) false _ ?side1 A15.out).mono ?_); (case side1 => exact Laid_below HLD.out (by repeat (first | (with_reducible first | exact HB.out | apply below_alloc | apply pw_below_drewN | apply below_drew1 | refine below_set ?_ GE580.out | refine below_set ?_ GE585.out) | exact HB.out))); rintro e w48 ⟨rfl, hb⟩; refine ⟨_, rfl, ?_⟩; have n0_ := Aside0.mk (blk_below (g := gb580) (o := .cells #[.int .u32 0, .int .u16 0, .int .i64 0, .int .i64 0] 49 (0, 0)) (by (with_reducible repeat (first | refine blk_drewN ?_ _ | refine blk_drew ?_ | refine blk_alloc ?_ _)); refine blk_far ?_ NB580_585.out _; (with_reducible repeat (first | refine blk_drewN ?_ _ | refine blk_drew ?_ | refine blk_alloc ?_ _)); refine blk_far ?_ NB580_585.out _; (with_reducible repeat (first | refine blk_drewN ?_ _ | refine blk_drew ?_ | refine blk_alloc ?_ _)); refine blk_far ?_ NB580_585.out _; (with_reducible repeat (first | refine blk_drewN ?_ _ | refine blk_drew ?_ | refine blk_alloc ?_ _)); refine blk_far ?_ NB580_585.out _; (with_reducible repeat (first | refine blk_drewN ?_ _ | refine blk_drew ?_ | refine blk_alloc ?_ _)); exact BK580.out) hb); have n1_ := Aside0.mk (blk_below (g := gb585) (o := .cells #[.int .u32 ((t581) % 4294967296), .int .u16 (IntKind.u16.wrap (t582)), .int .i64 (wrap64 (t583)), .int .i64 (wrap64 (t584))] 49 (0, 0)) (by (with_reducible repeat (first | refine blk_drewN ?_ _ | refine blk_drew ?_ | refine blk_alloc ?_ _)); refine blk_put (cs := #[.int .u32 ((t581) % 4294967296), .int .u16 (IntKind.u16.wrap (t582)), .int .i64 (wrap64 (t583)), .int .i64 0]) ?_ 3 _ rfl; (with_reducible repeat (first | refine blk_drewN ?_ _ | refine blk_drew ?_ | refine blk_alloc ?_ _)); refine blk_put (cs := #[.int .u32 ((t581) % 4294967296), .int .u16 (IntKind.u16.wrap (t582)), .int .i64 0, .int .i64 0]) ?_ 2 _ rfl; (with_reducible repeat (first | refine blk_drewN ?_ _ | refine blk_drew ?_ | refine blk_alloc ?_ _)); refine blk_put (cs := #[.int .u32 ((t581) % 4294967296), .int .u16 0, .int .i64 0, .int .i64 0]) ?_ 1 _ rfl; (with_reducible repeat (first | refine blk_drewN ?_ _ | refine blk_drew ?_ | refine blk_alloc ?_ _)); refine blk_put (cs := #[.int .u32 0, .int .u16 0, .int .i64 0, .int .i64 0]) ?_ 0 _ rfl; (with_reducible repeat (first | refine blk_drewN ?_ _ | refine blk_drew ?_ | refine blk_alloc ?_ _)); exact BK585.out) hb); have n2_ := Aside0.mk (below_step (by repeat (first | (with_reducible first | exact HB.out | apply below_alloc | apply pw_below_drewN | apply below_drew1 | refine below_set ?_ GE580.out | refine below_set ?_ GE585.out) | exact HB.out)) hb); clear BK580; clear BK585; clear HB; have BK580 := n0_; have BK585 := n1_; have HB := n2_; clear n0_ n1_ n2_; (try clear hb); (try clear hb2); (try clear hk); (try clear hi); have hcz49_0 : w48.cell? ⟨gb580, 0, none⟩ = some (.int .u32 0) := (blk_cell BK580.out 0).trans rfl; have hcz49_1 : w48.cell? ⟨gb580, 1, none⟩ = some (.int .u16 0) := (blk_cell BK580.out 1).trans rfl; have hcz49_2 : w48.cell? ⟨gb580, 2, none⟩ = some (.int .i64 0) := (blk_cell BK580.out 2).trans rfl; have hcz49_3 : w48.cell? ⟨gb580, 3, none⟩ = some (.int .i64 0) := (blk_cell BK580.out 3).trans rfl; have hfz49_0 := blk_frozen BK580.out 0; have hfz49_1 := blk_frozen BK580.out 1; have hfz49_2 := blk_frozen BK580.out 2; have hfz49_3 := blk_frozen BK580.out 3))
                      refine bodyPost_ret (results_ct rfl _ _ gb580 49 #[.int .u32 0, .int .u16 0, .int .i64 0, .int .i64 0] (0, 0) _ rfl (by (with_reducible repeat (first | refine blk_drewN ?_ _ | refine blk_drew ?_ | refine blk_alloc ?_ _)); refine blk_put (cs := #[.int .u32 0, .int .u16 0, .int .i64 0, .int .i64 0]) ?_ 3 _ rfl; (with_reducible repeat (first | refine blk_drewN ?_ _ | refine blk_drew ?_ | refine blk_alloc ?_ _)); refine blk_put (cs := #[.int .u32 0, .int .u16 0, .int .i64 0, .int .i64 0]) ?_ 2 _ rfl; (with_reducible repeat (first | refine blk_drewN ?_ _ | refine blk_drew ?_ | refine blk_alloc ?_ _)); refine blk_put (cs := #[.int .u32 0, .int .u16 0, .int .i64 0, .int .i64 0]) ?_ 1 _ rfl; (with_reducible repeat (first | refine blk_drewN ?_ _ | refine blk_drew ?_ | refine blk_alloc ?_ _)); refine blk_put (cs := #[.int .u32 0, .int .u16 0, .int .i64 0, .int .i64 0]) ?_ 0 _ rfl; (with_reducible repeat (first | refine blk_drewN ?_ _ | refine blk_drew ?_ | refine blk_alloc ?_ _)); exact BK580.out) Tryd.underlying49 rfl (by kernel_rfl)) rfl ?_
                      exact ⟨by first | rfl | (simp [errW_none, errW_some] <;> rfl) | (simp [*, errW_none, errW_some] <;> rfl), by repeat (first | (with_reducible first | exact HB.out | apply below_alloc | apply pw_below_drewN | apply below_drew1 | refine below_set ?_ GE580.out | refine below_set ?_ GE585.out) | exact HB.out)⟩
                  · rw [if_neg c13] at H
                    exact absurd H (by simp)
                · rw [if_neg c12] at H
                  exact absurd H (by simp)
              · rw [if_neg c10] at H
                exact absurd H (by simp)
            · rw [if_neg c9] at H
              exact absurd H (by simp)
          · rw [if_neg c7] at H
            exact absurd H (by simp)
        · rw [if_neg c6] at H
          exact absurd H (by simp)
      · rw [if_neg c4] at H
        exact absurd H (by simp)
    · rw [if_neg c3] at H
      exact absurd H (by simp)
  · rw [if_neg c2] at H
    have c2b0 : ((a0.size : Int) == 22) = false := beq_eq_false_iff_ne.mpr c2
    have c2b1 : ((a0.size : Int) != 22) = true := bne_iff_ne.mpr c2
    simp only [Option.some.injEq, Prod.mk.injEq] at H
    obtain ⟨rfl, rfl, rfl, rfl, rfl⟩ := H
    go_enter Tryd.func40, Tryd.ntmps40
    go_wp2_with (first | ((with_reducible refine gate_dst (N := 2) rfl ?_); refine box_event ?hg (N := 2) ?hd (cs := #[.int .u32 0, .int .u16 0, .int .i64 0, .int .i64 0]) (t := 49) ?hr ?_; (case hd => rfl); (case hg => rfl); (case hr => first | (go_simp; done) | (go_simp; rfl)); intro gb580 hg w50 hbox hb; have n0_ := Aside0.mk (below_step (by repeat (first | (with_reducible first | exact HB.out | apply below_alloc | apply pw_below_drewN | apply below_drew1) | exact HB.out)) hb); have n1_ := Aside0.mk (hbox); have n2_ := Aside0.mk ((by rw [hg]; exact (below_size (by repeat (first | (with_reducible first | exact HB.out | apply below_alloc | apply pw_below_drewN | apply below_drew1) | exact HB.out))) : w.heap.size ≤ gb580)); have n3_ := Aside0.mk ((by rw [hg]; exact (below_size (by repeat (first | (with_reducible first | exact HB.out | apply below_alloc | apply pw_below_drewN | apply below_drew1) | exact HB.out))) : w.heap.size ≤ gb580)); clear HB; have HB := n0_; have BK580 := n1_; have GW580 := n2_; have GE580 := n3_; clear n0_ n1_ n2_ n3_; clear hb hbox hg; have hcz51_0 : w50.cell? ⟨gb580, 0, none⟩ = some (.int .u32 0) := (blk_cell BK580.out 0).trans rfl; have hcz51_1 : w50.cell? ⟨gb580, 1, none⟩ = some (.int .u16 0) := (blk_cell BK580.out 1).trans rfl; have hcz51_2 : w50.cell? ⟨gb580, 2, none⟩ = some (.int .i64 0) := (blk_cell BK580.out 2).trans rfl; have hcz51_3 : w50.cell? ⟨gb580, 3, none⟩ = some (.int .i64 0) := (blk_cell BK580.out 3).trans rfl; have hfz51_0 := blk_frozen BK580.out 0; have hfz51_1 := blk_frozen BK580.out 1; have hfz51_2 := blk_frozen BK580.out 2; have hfz51_3 := blk_frozen BK580.out 3))
    refine bodyPost_ret (results_ct rfl _ _ gb580 49 #[.int .u32 0, .int .u16 0, .int .i64 0, .int .i64 0] (0, 0) _ rfl (by (with_reducible repeat (first | refine blk_drewN ?_ _ | refine blk_drew ?_ | refine blk_alloc ?_ _)); refine blk_put (cs := #[.int .u32 0, .int .u16 0, .int .i64 0, .int .i64 0]) ?_ 3 _ rfl; (with_reducible repeat (first | refine blk_drewN ?_ _ | refine blk_drew ?_ | refine blk_alloc ?_ _)); refine blk_put (cs := #[.int .u32 0, .int .u16 0, .int .i64 0, .int .i64 0]) ?_ 2 _ rfl; (with_reducible repeat (first | refine blk_drewN ?_ _ | refine blk_drew ?_ | refine blk_alloc ?_ _)); refine blk_put (cs := #[.int .u32 0, .int .u16 0, .int .i64 0, .int .i64 0]) ?_ 1 _ rfl; (with_reducible repeat (first | refine blk_drewN ?_ _ | refine blk_drew ?_ | refine blk_alloc ?_ _)); refine blk_put (cs := #[.int .u32 0, .int .u16 0, .int .i64 0, .int .i64 0]) ?_ 0 _ rfl; (with_reducible repeat (first | refine blk_drewN ?_ _ | refine blk_drew ?_ | refine blk_alloc ?_ _)); exact BK580.out) Tryd.underlying49 rfl (by kernel_rfl)) rfl ?_
    exact ⟨by first | rfl | (simp [errW_none, errW_some] <;> rfl) | (simp [*, errW_none, errW_some] <;> rfl), by repeat (first | (with_reducible first | exact HB.out | apply below_alloc | apply pw_below_drewN | apply below_drew1 | refine below_set ?_ GE580.out) | exact HB.out)⟩

end Go.Proofs.YtoclldkgkmhgaaaDoor.K
