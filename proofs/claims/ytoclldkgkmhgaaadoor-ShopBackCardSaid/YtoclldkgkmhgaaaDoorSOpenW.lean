/- Mails and listings that came in by value: their numbers, and that the item is one of sixteen bits. -/
import Derived.Test.YtoclldkgkmhgaaaDoorCG
namespace Go.Proofs.YtoclldkgkmhgaaaDoor.K
open Go.RowKit Go.Proofs.YtoclldkgkmhgaaaDoorW.PrintWords Go.Proofs.YtoclldkgkmhgaaaDoorW.PrintLast Go.ChangeShapes Go.WideShapes Go.Joins Go.Deep
set_option linter.unusedVariables false

theorem wf_u16 {n : Int} (h : (Lit.int .u16 n).wf = true) : 0 ≤ n ∧ n < 65536 := by
  simp [Lit.wf, IntKind.min, IntKind.max, IntKind.signed, IntKind.bits] at h
  omega
theorem int_ofW {H : Type} {enc : TypeId × Value → H} {P : Program} {w : World} {base n : Nat} {spare : Nat → Bool} {held : Bool} {t : TypeId} {k : IntKind} (ht : P.underlying t = some (.int k)) {c : Value} {y : DataW H × List MemPlace} (h : DataW.trod enc P w base spare held n t [c] = some y) : ∃ i, c = .int k i ∧ (Lit.int k i).wf = true := by
  obtain ⟨z, e, _, hw⟩ := DataW.trod_int ht h
  simp only [List.cons.injEq, and_true] at e
  exact ⟨z, e, hw⟩
theorem two_ofW {H : Type} {enc : TypeId × Value → H} {w : World} {base n : Nat} {spare : Nat → Bool} {held : Bool} {a b : Value} {x : DataW H × List MemPlace} (h : DataW.trod enc Tryd.prog w base spare held n 25 [a, b] = some x) : ∃ i j, a = .int .u16 i ∧ b = .int .i64 j ∧ (Lit.int .u16 i).wf = true := by
  obtain ⟨n0, y0, g0⟩ := field_of Tryd.underlying25 h 0 _ rfl rfl rfl cells_u16
  obtain ⟨n1, y1, g1⟩ := field_of Tryd.underlying25 h 1 _ rfl rfl rfl cells_i64
  obtain ⟨i, rfl, hw⟩ := int_ofW Tryd.underlying23 g0
  obtain ⟨j, rfl⟩ := int_of Tryd.underlying2 g1
  exact ⟨i, j, rfl, rfl, hw⟩
set_option maxRecDepth 100000 in
theorem open_mailW {H : Type} {enc : TypeId × Value → H} {w : World} {base : Nat} {spare : Nat → Bool} {held : Bool} {r : Reach} {b0 : Nat} {v : Value} {d : DataW H} {p : List MemPlace} (hv : Value.okWide Tryd.prog w r b0 27 v) (h : DataW.Trod enc Tryd.prog w base spare held 27 v d p) :
    ∃ m0 m1 m2 m3 : Int, v = .agg #[.int .u32 m0, .int .i64 m1, .int .u16 m2, .int .i64 m3] ∧ (Lit.int .u16 m2).wf = true := by
  obtain ⟨c0, c1, c2, c3, rfl⟩ := four_cells Tryd.underlying27 cells_ml hv
  obtain ⟨fuel, hf⟩ := h
  obtain ⟨n0, y0, g0⟩ := field_of Tryd.underlying27 hf 0 _ rfl rfl rfl cells_u32
  obtain ⟨n1, y1, g1⟩ := field_of Tryd.underlying27 hf 1 _ rfl rfl rfl cells_i64
  obtain ⟨n2, y2, g2⟩ := field_of Tryd.underlying27 hf 2 _ rfl rfl rfl cells_st
  obtain ⟨m0, rfl⟩ := int_of Tryd.underlying22 g0
  obtain ⟨m1, rfl⟩ := int_of Tryd.underlying2 g1
  obtain ⟨m2, m3, rfl, rfl, hw⟩ := two_ofW g2
  exact ⟨m0, m1, m2, m3, rfl, hw⟩
set_option maxRecDepth 100000 in
theorem open_listingW {H : Type} {enc : TypeId × Value → H} {w : World} {base : Nat} {spare : Nat → Bool} {held : Bool} {r : Reach} {b0 : Nat} {v : Value} {d : DataW H} {p : List MemPlace} (hv : Value.okWide Tryd.prog w r b0 49 v) (h : DataW.Trod enc Tryd.prog w base spare held 49 v d p) :
    ∃ m0 m1 m2 m3 : Int, v = .agg #[.int .u32 m0, .int .u16 m1, .int .i64 m2, .int .i64 m3] ∧ (Lit.int .u16 m1).wf = true := by
  obtain ⟨c0, c1, c2, c3, rfl⟩ := four_cells Tryd.underlying49 cells_li hv
  obtain ⟨fuel, hf⟩ := h
  obtain ⟨n0, y0, g0⟩ := field_of Tryd.underlying49 hf 0 _ rfl rfl rfl cells_u32
  obtain ⟨n1, y1, g1⟩ := field_of Tryd.underlying49 hf 1 _ rfl rfl rfl cells_st
  obtain ⟨n2, y2, g2⟩ := field_of Tryd.underlying49 hf 2 _ rfl rfl rfl cells_i64
  obtain ⟨m0, rfl⟩ := int_of Tryd.underlying22 g0
  obtain ⟨m1, m2, rfl, rfl, hw⟩ := two_ofW g1
  obtain ⟨m3, rfl⟩ := int_of Tryd.underlying2 g2
  exact ⟨m0, m1, m2, m3, rfl, hw⟩
end Go.Proofs.YtoclldkgkmhgaaaDoor.K
