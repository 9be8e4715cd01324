/- errors.Is at two errors of errors.New's make; what the package-level errors of money hold: after the kit's Sentry example, turned to this program. -/
import Derived.WalkKit
import Derived.LaidEql
import Derived.Stop.Asserts
import Derived.RowKitTokens
import Derived.Below
import Derived.Test.YtoclldkgkmhgaaaDoorChecked
namespace Go.Proofs.YtoclldkgkmhgaaaDoor.K
open Go.RowKit Go.Extern.Stop Go.Stop Go.Extern Go.Extern.ReflectliteType
set_option linter.unusedVariables false

theorem isTypeOf (v : Value) (w : World) : (Extern.ReflectliteType.typeOf #[.iface 148 v]).run Tryd.prog w = .ok (.iface 138 (.agg #[.pointer (some ⟨3, 148, none⟩)])) w := by kernel_rfl
theorem isComparable (w : World) : ((Extern.ReflectliteType.method fun t => do Rtype.noPackHeld "Comparable" t; (fun a => Value.bool a.comparable) <$> typeInfo t) #[.agg #[.pointer (some ⟨3, 148, none⟩)]]).run Tryd.prog w = .ok (.bool true) w := by kernel_rfl
theorem isMethodComparable (v : Value) (w : World) : (Go.method 284 138 v "Comparable").run Tryd.prog w = .ok (125, v) w := by kernel_rfl
theorem isComp : (Tryd.prog.info? 148).map (·.comparable) = some true := by kernel_rfl
theorem isSize : (Tryd.prog.info? 173).map (·.size) = some 1 := by kernel_rfl
theorem noIsE (v : Value) (xT : TypeId) (w : World) : (Instr.typeAssert (.iface 148 v) xT 140 true).run Tryd.prog w = .ok (.tuple #[.nilIface, .bool false]) w := run_typeAssert_lacksB Tryd.underlying140 (by kernel_rfl) (by kernel_rfl) v xT w
theorem noUnwrapE (v : Value) (xT : TypeId) (w : World) : (Instr.typeAssert (.iface 148 v) xT 143 true).run Tryd.prog w = .ok (.tuple #[.nilIface, .bool false]) w := run_typeAssert_lacksB Tryd.underlying143 (by kernel_rfl) (by kernel_rfl) v xT w
theorem noUnwrapsE (v : Value) (xT : TypeId) (w : World) : (Instr.typeAssert (.iface 148 v) xT 145 true).run Tryd.prog w = .ok (.tuple #[.nilIface, .bool false]) w := run_typeAssert_lacksB Tryd.underlying145 (by kernel_rfl) (by kernel_rfl) v xT w

/-- errors.Is(x, x), x a pointer to an errors.errorString. -/
theorem is_same (a : Addr) (w : World) :
    Calls Tryd.prog 103 #[.iface 148 (.pointer (some a)), .iface 148 (.pointer (some a))] w fun e w' => e = .returned (.bool true) ∧ w' = w := by
  obtain ⟨i, hi, hcmp⟩ := Option.map_eq_some_iff.1 isComp
  obtain ⟨j, hj, hjs⟩ := Option.map_eq_some_iff.1 isSize
  have h8 := @run_callFunc_extern Tryd.prog 105 _ Extern.ReflectliteType.typeOf Tryd.func105 (by kernel_rfl) (by kernel_rfl) (by kernel_rfl) (by kernel_rfl)
  have h32 := @run_callFunc_extern Tryd.prog 125 _ (Extern.ReflectliteType.method fun t => do Rtype.noPackHeld "Comparable" t; pure (.bool (← typeInfo t).comparable)) Tryd.func125 (by kernel_rfl) (by kernel_rfl) (by kernel_rfl) (by kernel_rfl)
  have tT := isTypeOf
  have cT := isComparable
  have mR := isMethodComparable
  have heq := run_eql_iface_ptr_same (P := Tryd.prog) w a Tryd.underlying111 Tryd.underlying148 hi hcmp hj
  go_enter Tryd.func103, Tryd.ntmps103
  go_wp2
  refine wp_loop_rounds 1 ?_
  rw [rounds_succ]
  go_wp2
  go_ret
  exact ⟨rfl, rfl⟩

/-- errors.Is(x, y), two different pointers to errors.errorString. -/
theorem is_other (a b : Addr) (ca cb : Array Value) (ta tb : TypeId) (w : World) (hne : a ≠ b) (ha : w.heap[a.block]? = some (.cells ca ta (0, 0))) (hb : w.heap[b.block]? = some (.cells cb tb (0, 0))) :
    Calls Tryd.prog 103 #[.iface 148 (.pointer (some a)), .iface 148 (.pointer (some b))] w fun e w' => e = .returned (.bool false) ∧ w' = w := by
  obtain ⟨i, hi, hcmp⟩ := Option.map_eq_some_iff.1 isComp
  obtain ⟨j, hj, hjs⟩ := Option.map_eq_some_iff.1 isSize
  have h8 := @run_callFunc_extern Tryd.prog 105 _ Extern.ReflectliteType.typeOf Tryd.func105 (by kernel_rfl) (by kernel_rfl) (by kernel_rfl) (by kernel_rfl)
  have h32 := @run_callFunc_extern Tryd.prog 125 _ (Extern.ReflectliteType.method fun t => do Rtype.noPackHeld "Comparable" t; pure (.bool (← typeInfo t).comparable)) Tryd.func125 (by kernel_rfl) (by kernel_rfl) (by kernel_rfl) (by kernel_rfl)
  have tT := isTypeOf
  have cT := isComparable
  have mR := isMethodComparable
  have nE := noIsE
  have uE := noUnwrapE
  have vE := noUnwrapsE
  have heq := run_eql_iface_ptr_other (P := Tryd.prog) w Tryd.underlying111 Tryd.underlying148 hi hcmp hj (by rw [hjs]; decide) hne ha hb
  go_enter Tryd.func103, Tryd.ntmps103
  go_wp2
  refine wp_loop_rounds 1 ?_
  rw [rounds_succ]
  go_wp2
  go_ret
  exact ⟨rfl, rfl⟩

/-- What the three package-level errors hold: three blocks, apart. -/
def Laid (w : World) : Prop := ∃ (a0 a1 a2 : Addr) (c0 c1 c2 : Array Value) (t0 t1 t2 : TypeId),
  w.cell? ⟨2, 0, none⟩ = some (.iface 148 (.pointer (some a0))) ∧
  w.cell? ⟨1, 0, none⟩ = some (.iface 148 (.pointer (some a1))) ∧
  w.cell? ⟨0, 0, none⟩ = some (.iface 148 (.pointer (some a2))) ∧
  a0 ≠ a1 ∧ a0 ≠ a2 ∧ a1 ≠ a2 ∧
  w.heap[a0.block]? = some (.cells c0 t0 (0, 0)) ∧ w.heap[a1.block]? = some (.cells c1 t1 (0, 0)) ∧ w.heap[a2.block]? = some (.cells c2 t2 (0, 0))

theorem cell_lt {w : World} {a : Addr} {v : Value} (h : w.cell? a = some v) : a.block < w.heap.size := by
  rcases Nat.lt_or_ge a.block w.heap.size with h1 | h1
  · exact h1
  · simp [World.cell?, Array.getElem?_eq_none_iff.2 h1] at h

theorem Laid_below {w w' : World} (h : Laid w) (hb : Below w.heap.size w w') : Laid w' := by
  obtain ⟨a0, a1, a2, c0, c1, c2, t0, t1, t2, g0, g1, g2, n01, n02, n12, h0, h1, h2⟩ := h
  exact ⟨a0, a1, a2, c0, c1, c2, t0, t1, t2, (hb.cell (cell_lt g0)).trans g0, (hb.cell (cell_lt g1)).trans g1, (hb.cell (cell_lt g2)).trans g2, n01, n02, n12,
    (hb.block _ (Array.getElem?_eq_some_iff.1 h0).1).trans h0, (hb.block _ (Array.getElem?_eq_some_iff.1 h1).1).trans h1, (hb.block _ (Array.getElem?_eq_some_iff.1 h2).1).trans h2⟩
end Go.Proofs.YtoclldkgkmhgaaaDoor.K
