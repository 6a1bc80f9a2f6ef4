/- Small tools of walks: blocks of cells under stores. -/
import Derived.Test.YtklckjmlifddjaaMem
namespace Go.Proofs.Ytklckjmlifddjaa
open Go.RowKit

theorem cells_at {w : World} {b : Nat} {cs : Array Value} {t : TypeId} {fr : Nat × Nat} (h : w.heap[b]? = some (.cells cs t fr)) (i : Nat) : w.cell? ⟨b, i, none⟩ = cs[i]? := by
  simp only [World.cell?, h]; rfl
theorem cells_set {w : World} {b k : Nat} {y : Value} {cs : Array Value} {t : TypeId} (h : w.heap[b]? = some (.cells cs t (0, 0))) : (w.setCell ⟨b, k, none⟩ y).heap[b]? = some (.cells (cs.setIfInBounds k y) t (0, 0)) := by
  simp [World.setCell, Array.getElem?_modify, h]
theorem cells_far {w : World} {b Z k : Nat} {y : Value} {o : Option Obj} (h : w.heap[b]? = o) (hb : b ≠ Z) : (w.setCell ⟨Z, k, none⟩ y).heap[b]? = o :=
  (Below.heap_setCell _ _ _ _ (show b ≠ (⟨Z, k, none⟩ : Addr).block from hb)).trans h
theorem six_cells {w : World} {b : Nat} {x0 x1 x2 x3 x4 x5 : Value} {t : TypeId} (h : w.heap[b]? = some (.cells #[x0, x1, x2, x3, x4, x5] t (0, 0))) :
    (w.cell? ⟨b, 0, none⟩ = some x0 ∧ w.cell? ⟨b, 1, none⟩ = some x1 ∧ w.cell? ⟨b, 2, none⟩ = some x2 ∧ w.cell? ⟨b, 3, none⟩ = some x3 ∧ w.cell? ⟨b, 4, none⟩ = some x4 ∧ w.cell? ⟨b, 5, none⟩ = some x5) ∧
    (w.frozen? ⟨b, 0, none⟩ = false ∧ w.frozen? ⟨b, 1, none⟩ = false ∧ w.frozen? ⟨b, 2, none⟩ = false ∧ w.frozen? ⟨b, 3, none⟩ = false ∧ w.frozen? ⟨b, 4, none⟩ = false ∧ w.frozen? ⟨b, 5, none⟩ = false) := by simp [World.cell?, World.frozen?, h]
end Go.Proofs.Ytklckjmlifddjaa
