/- Small words on blocks. -/
import Derived.Test.YtgnjodocggihoaaDoorKx0
namespace Go.Proofs.YtgnjodocggihoaaDoor.K
open Go.RowKit Go.Proofs.YtgnjodocggihoaaDoorW.PrintWords Go.Proofs.YtgnjodocggihoaaDoorW.PrintLast Go.Proofs.YtgnjodocggihoaaDoorW.PrintMore
set_option linter.unusedVariables false

theorem flat_at {α : Type} (enc : α → List Value) (sz : Nat) (hsz : ∀ x, (enc x).length = sz) : ∀ (xs : List α) (j : Nat) (x : α) (i : Nat) (u : Value), xs[j]? = some x → (enc x)[i]? = some u → (xs.flatMap enc)[j * sz + i]? = some u
  | [], j, x, i, u, h, _ => by simp at h
  | y :: ys, 0, x, i, u, h, hu => by
    simp at h
    subst h
    have hi : i < (enc y).length := (List.getElem?_eq_some_iff.1 hu).1
    simp only [List.flatMap_cons, Nat.zero_mul, Nat.zero_add]
    rw [List.getElem?_append_left hi]
    exact hu
  | y :: ys, j + 1, x, i, u, h, hu => by
    simp only [List.getElem?_cons_succ] at h
    have := flat_at enc sz hsz ys j x i u h hu
    have e : (j + 1) * sz + i = (enc y).length + (j * sz + i) := by rw [hsz, Nat.add_mul]; omega
    simp only [List.flatMap_cons]
    rw [e, List.getElem?_append_right (by omega)]
    simpa using this

theorem C_of_block {α : Type} (d : Kd α) (enc : α → List Value) {W : World} {g : Nat} {cells : Array Value} {t : TypeId} (hb : W.heap[g]? = some (.cells cells t (0, 0))) (xs : List α)
    (hsz : ∀ x, (enc x).length = d.sz) (hK : ∀ x, d.K W x (enc x)) (hcs : cells.toList = xs.flatMap enc) (hn : xs.length ≤ 9223372036854775807) : d.C W (some ⟨g, 0, none⟩) xs.length xs := by
  refine ⟨rfl, hn, fun _ => ⟨_, rfl, fun j x hj => ⟨enc x, hsz x, hK x, fun i u hu => ?_⟩⟩⟩
  have := flat_at enc d.sz hsz xs j x i u hj hu
  rw [← hcs] at this
  have h2 : cells[j * d.sz + i]? = some u := by simpa using this
  rw [show (⟨g, 0, none⟩ : Addr).add (j * d.sz + i) = ⟨g, j * d.sz + i, none⟩ from by unfold Addr.add; split <;> simp_all]
  exact (blk_cell hb _).trans h2

theorem alloc2_new (w : World) (X Y : Obj) : ((w.alloc X).alloc Y).heap[w.heap.size + 1]? = some Y := by simpa using (MapKept.heap_alloc (w.alloc X) Y).1
theorem alloc2_fst (w : World) (X Y : Obj) : ((w.alloc X).alloc Y).heap[w.heap.size]? = some X := ((MapKept.heap_alloc (w.alloc X) Y).2 _ (by simp)).trans (MapKept.heap_alloc w X).1
theorem alloc_old {w : World} {g : Nat} {o : Obj} (X : Obj) (h : w.heap[g]? = some o) : (w.alloc X).heap[g]? = some o := ((MapKept.heap_alloc w X).2 _ (Array.getElem?_eq_some_iff.1 h).1).trans h

end Go.Proofs.YtgnjodocggihoaaDoor.K
