/- Words and walks that this claim names, of those that the kit's print and programs of this workplace have printed. -/
import Derived.Test.YtmgohkffphogdaaZUKd
namespace Go.Proofs.Ytmgohkffphogdaa.Kx
open Go Go.RowKit
theorem below_both {B : Nat} {w x : World} (h : Below B w x) (p : Addr) (v : Value) : Below B (w.setCell p v) (x.setCell p v) :=
  ⟨h.os, h.tape, h.output, by simpa [World.setCell] using h.size, fun k hk => by
    simp only [World.setCell, Array.getElem?_modify]
    rw [h.block k hk]⟩
theorem below_again {B g : Nat} {w x : World} {v : Value} (h : Below B (w.setCell ⟨g, 0, none⟩ v) x) (v' : Value) : Below B (w.setCell ⟨g, 0, none⟩ v') (x.setCell ⟨g, 0, none⟩ v') :=
  ⟨h.os, h.tape, h.output, by have := h.size; simp only [World.setCell, Array.size_modify] at this ⊢; exact this, fun k hk => by
    have := h.block k hk
    simp only [World.setCell, Array.getElem?_modify] at this ⊢
    rw [this]
    by_cases e : g = k
    · simp only [if_pos e]
      cases hh : w.heap[k]? with
      | none => rfl
      | some o => cases o <;> simp
    · simp only [if_neg e]⟩
theorem below_stepG {g : Nat} {w x y : World} {v : Value} (h : Below w.heap.size (w.setCell ⟨g, 0, none⟩ v) x) (hb : Below x.heap.size x y) : Below w.heap.size (w.setCell ⟨g, 0, none⟩ v) y :=
  h.trans (hb.mono (by have := h.size; simpa [World.setCell] using this))
theorem below_setG {g k j : Nat} {w x : World} {v u : Value} (h : Below w.heap.size (w.setCell ⟨g, 0, none⟩ v) x) (hk : w.heap.size ≤ k) : Below w.heap.size (w.setCell ⟨g, 0, none⟩ v) (x.setCell ⟨k, j, none⟩ u) := h.setCell hk u
theorem below_sizeG {g : Nat} {w x : World} {v : Value} (h : Below w.heap.size (w.setCell ⟨g, 0, none⟩ v) x) : w.heap.size ≤ x.heap.size := by have := h.size; simpa [World.setCell] using this
end Go.Proofs.Ytmgohkffphogdaa.Kx
