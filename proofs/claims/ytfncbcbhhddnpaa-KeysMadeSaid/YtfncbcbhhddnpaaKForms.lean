/- The contract of keys.forms. -/
import Derived.Test.YtfncbcbhhddnpaaProg
import Derived.WalkKit
import Derived.Deep.QuietTactic
import Derived.BigQuiet
import Derived.Outline
import Derived.WideLaws
namespace Go.Proofs.Ytfncbcbhhddnpaa.K
open Go.RowKit Go.MapKept
set_option linter.unusedVariables false
set_option linter.unusedSimpArgs false

abbrev formV (m a i l : Int) : Value := .agg #[.int .u8 m, .int .i64 a, .int .i64 i, .int .i64 l]

theorem isKey (k : Int) : IsKey (.int .i64) (.int .i64 k) := by simp [IsKey]

theorem run_checkKey3 (em : Bool) (w : World) (k : Int) : (Instr.checkKey em 10000 3 (.int .i64 k)).run Try.prog w = .ok () w :=
  run_checkKey Try.underlying3 (isKey k) em 9999

theorem run_insert_new (w : World) (es : Array MapEntry) (c : Nat) (k : Int) (v : Value) (h : Instr.findNow (.int .i64) (.int .i64 k) es.toList 0 = some none) :
    (Instr.mapUpdate 41 (.map (some w.heap.size)) (.int .i64 k) v).run Try.prog (w.alloc (.map es c)) = .ok () (w.alloc (.map (es.push { key := .int .i64 k, val := v, born := c }) (c + 1))) := by
  have hn : (w.alloc (.map es c)).heap[w.heap.size]? = some (.map es c) := (MapKept.heap_alloc w _).1
  have hg : (getObj w.heap.size).run Try.prog (w.alloc (.map es c)) = .ok (.map es c) (w.alloc (.map es c)) := MapKept.run_getObj_map hn
  have hs : ∀ o, (setObj w.heap.size o).run Try.prog (w.alloc (.map es c)) = .ok () (w.alloc o) := by
    intro o
    rw [MapKept.run_setObj_map o hn]
    show Result.ok () ({ (w.alloc (.map es c)) with heap := (w.heap.push (.map es c)).setIfInBounds w.heap.size o } : World) = .ok () ({ w with heap := w.heap.push o } : World)
    have e : (w.heap.push (.map es c)).setIfInBounds w.heap.size o = w.heap.push o := by
      apply Array.ext'
      simp
    rw [e]
    rfl
  have hf : (Instr.findKey 3 (.int .i64 k) es.toList).run Try.prog (w.alloc (.map es c)) = .ok none (w.alloc (.map es c)) := run_findKey Try.underlying3 h
  simp only [Instr.mapUpdate, Sem.run_bind, run_underlying Try.underlying41, Result.andThen, hg, run_checkKey3, hf, hs]

theorem forms_calls (w : World) : Calls Try.prog 17 #[] w fun e w' => e = .returned (.map (some w.heap.size)) ∧
    w' = w.alloc (.map #[⟨.int .i64 1, formV 97 4 0 0, 0⟩, ⟨.int .i64 2, formV 105 4 2 0, 1⟩, ⟨.int .i64 3, formV 109 4 0 4, 2⟩, ⟨.int .i64 4, formV 115 4 0 0, 3⟩, ⟨.int .i64 5, formV 110 1 0 0, 4⟩, ⟨.int .i64 6, formV 116 1 2 0, 5⟩] 6) := by
  have hmm := @run_makeMap Try.prog
  have i1 := fun v => run_insert_new w #[] 0 1 v rfl
  have i2 := fun v1 v => run_insert_new w #[⟨.int .i64 1, v1, 0⟩] 1 2 v rfl
  have i3 := fun v1 v2 v => run_insert_new w #[⟨.int .i64 1, v1, 0⟩, ⟨.int .i64 2, v2, 1⟩] 2 3 v rfl
  have i4 := fun v1 v2 v3 v => run_insert_new w #[⟨.int .i64 1, v1, 0⟩, ⟨.int .i64 2, v2, 1⟩, ⟨.int .i64 3, v3, 2⟩] 3 4 v rfl
  have i5 := fun v1 v2 v3 v4 v => run_insert_new w #[⟨.int .i64 1, v1, 0⟩, ⟨.int .i64 2, v2, 1⟩, ⟨.int .i64 3, v3, 2⟩, ⟨.int .i64 4, v4, 3⟩] 4 5 v rfl
  have i6 := fun v1 v2 v3 v4 v5 v => run_insert_new w #[⟨.int .i64 1, v1, 0⟩, ⟨.int .i64 2, v2, 1⟩, ⟨.int .i64 3, v3, 2⟩, ⟨.int .i64 4, v4, 3⟩, ⟨.int .i64 5, v5, 4⟩] 5 6 v rfl
  simp only [Array.push_empty, List.push_toArray, List.nil_append, List.cons_append, Nat.reduceAdd] at i1 i2 i3 i4 i5 i6
  go_enter Try.func17, Try.ntmps17
  go_wp2
  go_ret
  exact ⟨rfl, rfl⟩
end Go.Proofs.Ytfncbcbhhddnpaa.K
