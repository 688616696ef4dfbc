/- Words and walks that this claim names, of those that the kit's print and programs of this workplace have printed. -/
import Derived.Laws.Rows
import Derived.Laws.Tables
import Derived.Laws.BitsAllLaws
import Derived.Below
import Derived.Laws.CopyOwn
import Derived.Deep.Draws
import Derived.ScopeJumps
set_option linter.unusedVariables false
namespace Go.Proofs.Ytohkmmbmfhficaa.Arr
open Go Go.RowKit
variable {P : Program}
theorem wpList_store_row {ops : Array Oper} {rest : List Oper} {o : Oper} {a : Act} {w : World} {Q : Exit → Act → World → Prop} (hgd : o.guard = none) (ty : TypeId) (x y : Operand) (ho : o.op = .store ty x y) (hd : o.dst = none)
    (g : Nat) (hx : a.eval x = .pointer (some ⟨g, 0, none⟩)) (t : TypeId) (old cs : Array Value) (hy : a.eval y = .agg cs) (hg : w.heap[g]? = some (.cells old t (0, 0)))
    (hi : (P.info? ty).map (·.size) = some cs.size) (hs : old.size = cs.size) (h1 : cs.all (·.oneCell') = true)
    (h : wpList P ops Q rest a (w.setRow g cs)) : wpList P ops Q (o :: rest) a w := by
  refine wpList_plain hgd fun K hK => ?_
  unfold Oper.wp execOp
  simp only [ho, hx, hy, Instr.storeAt, Instr.sureAddr, Sem.run_bind, Sem.run_pure, Result.andThen_ok, run_storeVar_row w g t ty old cs hg hi hs h1]
  have e : a.put o.dst undef = a := by rw [hd]; rfl
  exact hK _ _ (by rw [e]; exact h)
def numA (k : IntKind) (n : Nat) (f : Nat → Int) : Array Value := ((List.range n).map fun i => Value.int k (f i)).toArray
theorem numA_size (k : IntKind) (n : Nat) (f : Nat → Int) : (numA k n f).size = n := by simp [numA]
theorem numA_at (k : IntKind) (n : Nat) (f : Nat → Int) (i : Nat) (h : i < n) : (numA k n f)[i]? = some (.int k (f i)) := by simp [numA, h]
theorem numA_congr {k : IntKind} {n : Nat} {f g : Nat → Int} (h : ∀ i, i < n → f i = g i) : numA k n f = numA k n g := by
  unfold numA
  congr 1
  refine List.map_congr_left fun i hi => ?_
  rw [h i (by simpa using hi)]
theorem numA_set (k : IntKind) (n : Nat) (f : Nat → Int) (i : Nat) (v : Int) : (numA k n f).setIfInBounds i (.int k v) = numA k n (fun j => if j = i then v else f j) := by
  apply Array.ext_getElem?
  intro j
  rw [Array.getElem?_setIfInBounds]
  by_cases hj : j < n
  ·by_cases e : i = j
   ·subst e
    rw [if_pos rfl, numA_at k n _ i hj, if_pos rfl, if_pos (by rw [numA_size]; exact hj)]
   rw [if_neg e, numA_at k n _ j hj, numA_at k n _ j hj, if_neg (fun h => e h.symm)]
  have h1 : (numA k n f)[j]? = none := Array.getElem?_eq_none (by rw [numA_size]; omega)
  have h2 : (numA k n fun j => if j = i then v else f j)[j]? = none := Array.getElem?_eq_none (by rw [numA_size]; omega)
  rw [h1, h2]
  split
  ·rw [if_neg (by rw [numA_size]; omega)]
  rfl
def IsA (w : World) (g : Nat) (t : TypeId) (k : IntKind) (n : Nat) (f : Nat → Int) : Prop := w.heap[g]? = some (.cells (numA k n f) t (0, 0))
theorem IsA.cell {w : World} {g : Nat} {t : TypeId} {k : IntKind} {n : Nat} {f : Nat → Int} (h : IsA w g t k n f) (i : Nat) (hi : i < n) : w.cell? ⟨g, i, none⟩ = some (.int k (f i)) := by
  rw [cell_of_row w g i _ t (0, 0) h, numA_at k n f i hi]
theorem IsA.free {w : World} {g : Nat} {t : TypeId} {k : IntKind} {n : Nat} {f : Nat → Int} (h : IsA w g t k n f) (i : Nat) : w.frozen? ⟨g, i, none⟩ = false := frozen_of_row w g i _ t h
theorem IsA.lt {w : World} {g : Nat} {t : TypeId} {k : IntKind} {n : Nat} {f : Nat → Int} (h : IsA w g t k n f) : g < w.heap.size := (Array.getElem?_eq_some_iff.1 h).1
theorem IsA.below {w w1 : World} {g : Nat} {t : TypeId} {k : IntKind} {n : Nat} {f : Nat → Int} (h : IsA w g t k n f) (hb : Below w.heap.size w w1) : IsA w1 g t k n f := (hb.block g h.lt).trans h
theorem IsA.set {w : World} {g : Nat} {t : TypeId} {k : IntKind} {n : Nat} {f : Nat → Int} (h : IsA w g t k n f) (i : Nat) (hi : i < n) (v : Int) : IsA (w.setCell ⟨g, i, none⟩ (.int k v)) g t k n (fun j => if j = i then v else f j) := by
  unfold IsA
  rw [← numA_set]
  exact heap_setCell_same w g i _ t _ h
theorem IsA.row {w : World} {g g' : Nat} {t : TypeId} {k : IntKind} {n : Nat} {f : Nat → Int} (h : IsA w g t k n f) (cs : Array Value) (ha : g ≠ g') : IsA (w.setRow g' cs) g t k n f := (setRow_other w g' g cs ha).trans h
theorem IsA.congr {w : World} {g : Nat} {t : TypeId} {k : IntKind} {n : Nat} {f f' : Nat → Int} (h : IsA w g t k n f) (e : ∀ i, i < n → f i = f' i) : IsA w g t k n f' := by
  unfold IsA at *
  rw [h, numA_congr e]
theorem IsA.alloc {w : World} {g : Nat} {t : TypeId} {k : IntKind} {n : Nat} {f : Nat → Int} (h : IsA w g t k n f) (o : Obj) : IsA (w.alloc o) g t k n f := (heap_alloc_old w o g h.lt).trans h
theorem IsA.drewN {w : World} {g : Nat} {t : TypeId} {k : IntKind} {n : Nat} {f : Nat → Int} (h : IsA w g t k n f) (m : Nat) : IsA (w.drewN m) g t k n f := h
theorem wp_scope_once {a : Act} {w : World} {Q : Exit → Act → World → Prop} {c X : Code} (l : Nat) (J : Act → World → Prop) (μ : Act → World → Nat) (hf : findLabel c l = some (.seq .skip X))
    (first : (∀ a w, J a w → X.wp P (Exit.jump l J Q) a w) → c.wp P (Exit.jump l J Q) a w)
    (pass : ∀ a w, J a w → X.wp P (Exit.jump l (fun a' w' => J a' w' ∧ μ a' w' < μ a w) Q) a w) : (Code.scope c).wp P Q a w := by
  refine wp_scope_jumps l J μ hf (first fun a w hJ => wp_mono (pass a w hJ) ?_) (fun a w hJ => wp_seq (wp_skip (pass a w hJ)))
  intro e a' w' h
  cases e with
  | goto l' => exact ⟨h.1, h.2.1⟩
  | normal => exact h
  | exit id => exact h
  | ret => exact h
  | panic ch => exact h
  | outgrown => exact h
theorem x32 {a b : Nat} (ha : a < 4294967296) (hb : b < 4294967296) : bits .xor .u32 (a : Int) (b : Int) = ((a ^^^ b : Nat) : Int) := u32_xor_nat a b ha hb
theorem a32 {a b : Nat} (ha : a < 4294967296) (hb : b < 4294967296) : bits .and .u32 (a : Int) (b : Int) = ((a &&& b : Nat) : Int) := u32_and_nat a b ha hb
end Go.Proofs.Ytohkmmbmfhficaa.Arr
