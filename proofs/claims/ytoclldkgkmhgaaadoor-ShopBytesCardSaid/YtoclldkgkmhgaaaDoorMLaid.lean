/- What the row's list on the three package-level errors of money gives: Laid. -/
import Derived.Test.YtoclldkgkmhgaaaDoorMIs
import Derived.Test.YtoclldkgkmhgaaaDoorRows
import Derived.ProofKit
import Derived.Stop.LaidTwo
namespace Go.Proofs.YtoclldkgkmhgaaaDoor.K
open Go.RowKit Go.ChangeShapes Go.WideShapes
set_option linter.unusedVariables false
set_option linter.unusedSimpArgs false

/-- One error of errors.New's make at the head of what is listed. -/
theorem laid_one {P : Program} {W : World} {n nm : String} {text : List UInt8} {r : List (String × DataW Unit)} {ps : List MemPlace} {g : Nat} {ti tp te ts : TypeId} {ms : Array (String × TypeId)} {f : Field}
    (h : DataW.LaidVars P W ((n, .iface nm (.ptr (.agg [.lit (.string text)]))) :: r) ps)
    (hrows : ∀ b off, MemPlace.cell b off ∈ ps → (∃ c t, W.heap[b]? = some (.cells c t (0, 0))) ∧ ∀ u v, W.cell? ⟨b, off, none⟩ = some (.iface u v) → Value.okWide P W .any 0 u v)
    (hg : P.globalNamed n = some g) (ht : (P.globals[g]?).map (·.type) = some ti) (hi : P.underlying ti = some (.interface ms)) (hrow : ∀ u, P.typeName? 3 u = some nm → u = tp)
    (hp : P.underlying tp = some (.pointer te)) (he : P.underlying te = some (.struct #[f])) (hft : f.type = ts) (hfo : f.offset = 0) (hs : P.underlying ts = some .string) (hc : P.cellsOf te = 1) (hcs : P.cellsOf ts = 1) :
    ∃ (a : Addr) (q : List MemPlace), W.cell? ⟨g, 0, none⟩ = some (.iface tp (.pointer (some a))) ∧ (∃ c t, W.heap[a.block]? = some (.cells c t (0, 0))) ∧ DataW.LaidVars P W r q ∧
      ps = MemPlace.row ⟨g, 0, none⟩ 1 ++ MemPlace.row a 1 ++ q := by
  obtain ⟨g', t', cs, fu, p, q, hg', ht', hv, hd, hr, rfl⟩ := h
  cases Option.some.inj (hg.symm.trans hg')
  cases Option.some.inj (ht.symm.trans ht')
  have ok : ∀ u v, cs.toList = [.iface u v] → Value.okWide P W .any 0 u v := by
    intro u v e
    obtain ⟨l⟩ := cs
    simp at e
    subst e
    exact (hrows g 0 (by simp [MemPlace.row])).2 u v (by simpa using World.var?_cell hg' hv 0)
  obtain ⟨a, s, e, _, _, _, rfl⟩ := errorString_of_trod hi hrow hp he hft hfo hs hc hcs hd ok
  obtain ⟨l⟩ := cs
  simp at e
  subst e
  exact ⟨a, q, by simpa using World.var?_cell hg' hv 0, (hrows a.block a.off (by simp [MemPlace.row])).1, hr, rfl⟩

theorem gA : Tryd.prog.globalNamed "bazaar/money.errAmount" = some 2 := by kernel_rfl
theorem gO : Tryd.prog.globalNamed "bazaar/money.errOverflow" = some 1 := by kernel_rfl
theorem gF : Tryd.prog.globalNamed "bazaar/money.errFunds" = some 0 := by kernel_rfl
theorem gAt : (Tryd.prog.globals[2]?).map (·.type) = some 111 := by kernel_rfl
theorem gOt : (Tryd.prog.globals[1]?).map (·.type) = some 111 := by kernel_rfl
theorem gFt : (Tryd.prog.globals[0]?).map (·.type) = some 111 := by kernel_rfl
theorem cellsE : Tryd.prog.cellsOf 173 = 1 := by kernel_rfl
theorem cellsS : Tryd.prog.cellsOf 9 = 1 := by kernel_rfl
theorem star : "*" ++ "errors.errorString" = "*errors.errorString" := by decide
theorem rowE (u : TypeId) (h : Tryd.prog.typeName? 3 u = some "*errors.errorString") : u = 148 :=
  typeName_ptr_named (nm := "errors.errorString") (by rw [star]; kernel_rfl) (by kernel_rfl) (by decide) u (by rw [star]; exact h)

theorem laid_of {W : World} {x y z : List UInt8}
    (h : laidMet Tryd.prog [("bazaar/money.errAmount", .iface "*errors.errorString" (.ptr (.agg [.lit (.string x)]))), ("bazaar/money.errOverflow", .iface "*errors.errorString" (.ptr (.agg [.lit (.string y)]))), ("bazaar/money.errFunds", .iface "*errors.errorString" (.ptr (.agg [.lit (.string z)])))] W) : Laid W := by
  obtain ⟨ps, hl, hnd, hrows⟩ := h
  obtain ⟨a0, q0, g0, ⟨c0, t0, h0⟩, hl1, rfl⟩ := laid_one hl hrows gA gAt Tryd.underlying111 rowE Tryd.underlying148 Tryd.underlying173 rfl rfl Tryd.underlying9 cellsE cellsS
  have hrows1 := fun b off (hm : MemPlace.cell b off ∈ q0) => hrows b off (List.mem_append_right _ hm)
  obtain ⟨a1, q1, g1, ⟨c1, t1, h1⟩, hl2, rfl⟩ := laid_one hl1 hrows1 gO gOt Tryd.underlying111 rowE Tryd.underlying148 Tryd.underlying173 rfl rfl Tryd.underlying9 cellsE cellsS
  have hrows2 := fun b off (hm : MemPlace.cell b off ∈ q1) => hrows1 b off (List.mem_append_right _ hm)
  obtain ⟨a2, q2, g2, ⟨c2, t2, h2⟩, hl3, rfl⟩ := laid_one hl2 hrows2 gF gFt Tryd.underlying111 rowE Tryd.underlying148 Tryd.underlying173 rfl rfl Tryd.underlying9 cellsE cellsS
  refine ⟨a0, a1, a2, c0, c1, c2, t0, t1, t2, g0, g1, g2, ?_, ?_, ?_, h0, h1, h2⟩
  all_goals (rintro rfl; simp [MemPlace.row] at hnd)
end Go.Proofs.YtoclldkgkmhgaaaDoor.K
namespace Go.Proofs.YtoclldkgkmhgaaaDoor.K
open Go.RowKit Go.ChangeShapes Go.WideShapes
abbrev amountS : ByteArray := { data := #[110, 111, 32, 97, 109, 111, 117, 110, 116] }
abbrev overS : ByteArray := { data := #[116, 111, 111, 32, 109, 117, 99, 104] }
abbrev fundsS : ByteArray := { data := #[116, 111, 111, 32, 108, 105, 116, 116, 108, 101] }
noncomputable def low : Nat := (World.holding Tryd.prog default ⟨#[], #[], []⟩).heap.size
/-- A world for a witness: the three errors laid. -/
noncomputable def laidWorld (os : Os) : World :=
  let w0 := World.holding Tryd.prog os ⟨#[.cells #[.string amountS] 173, .cells #[.string overS] 173, .cells #[.string fundsS] 173], #[], []⟩
  { w0 with heap := ((w0.heap.modify 2 fun
      | .cells _ t frozen => .cells #[.iface 148 (.pointer (some ⟨low, 0, none⟩))] t frozen
      | o => o).modify 1 fun
      | .cells _ t frozen => .cells #[.iface 148 (.pointer (some ⟨low + 1, 0, none⟩))] t frozen
      | o => o).modify 0 fun
      | .cells _ t frozen => .cells #[.iface 148 (.pointer (some ⟨low + 2, 0, none⟩))] t frozen
      | o => o }
end Go.Proofs.YtoclldkgkmhgaaaDoor.K
