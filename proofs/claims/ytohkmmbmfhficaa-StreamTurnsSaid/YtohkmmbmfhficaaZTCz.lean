/- Words and walks that this claim names, of those that the kit's print and programs of this workplace have printed. -/
import Derived.Test.YtohkmmbmfhficaaZTWWords
import Derived.Test.YtohkmmbmfhficaaZTWMore
import Derived.Test.YtohkmmbmfhficaaZTWLast
import Derived.Test.YtohkmmbmfhficaaZTWTab
import Derived.Test.YtohkmmbmfhficaaZTWApart
import Derived.WalkKit
import Derived.KernelRfl
set_option linter.unusedVariables false
namespace Go.Proofs.Ytohkmmbmfhficaa.Cz
open Go Go.RowKit Go.Proofs.YtohkmmbmfhficaaW.PrintWords Go.Proofs.YtohkmmbmfhficaaW.PrintLast
theorem hx {w w' : World} {p : Addr} {v : Value} (hb : Aside0 (Below w.heap.size w w')) (h : w.cell? p = some v) : w'.cell? p = some v := (hb.out.cell (World.block_lt_of_cell? w _ h)).trans h
theorem c1 {w : World} {g : Nat} {t : TypeId} {a : Value} (hh : Aside0 (w.heap[g]? = some (.cells #[a] t (0, 0)))) : w.cell? ⟨g, 0, none⟩ = some a := (blk_cell hh.out 0).trans rfl
theorem d1 {w : World} {g : Nat} {t : TypeId} {a : Value} (hh : Aside0 (w.heap[g]? = some (.cells #[a] t (0, 0)))) : w.cell? ⟨g, 0, none⟩ = some a ∧ w.frozen? ⟨g, 0, none⟩ = false :=
  ⟨(blk_cell hh.out 0).trans rfl, blk_frozen hh.out 0⟩
theorem f1 {w : World} {g : Nat} {t : TypeId} {a : Value} (hh : Aside0 (w.heap[g]? = some (.cells #[a] t (0, 0)))) : w.frozen? ⟨g, 0, none⟩ = false := blk_frozen hh.out 0
theorem c2 {w : World} {g : Nat} {t : TypeId} {a b : Value} (hh : Aside0 (w.heap[g]? = some (.cells #[a, b] t (0, 0)))) : w.cell? ⟨g, 0, none⟩ = some a ∧ w.cell? ⟨g, 1, none⟩ = some b :=
  ⟨(blk_cell hh.out 0).trans rfl, (blk_cell hh.out 1).trans rfl⟩
theorem d2 {w : World} {g : Nat} {t : TypeId} {a b : Value} (hh : Aside0 (w.heap[g]? = some (.cells #[a, b] t (0, 0)))) : w.cell? ⟨g, 0, none⟩ = some a ∧ w.cell? ⟨g, 1, none⟩ = some b ∧ w.frozen? ⟨g, 0, none⟩ = false ∧ w.frozen? ⟨g, 1, none⟩ = false :=
  ⟨(blk_cell hh.out 0).trans rfl, (blk_cell hh.out 1).trans rfl, blk_frozen hh.out 0, blk_frozen hh.out 1⟩
theorem f2 {w : World} {g : Nat} {t : TypeId} {a b : Value} (hh : Aside0 (w.heap[g]? = some (.cells #[a, b] t (0, 0)))) : w.frozen? ⟨g, 0, none⟩ = false ∧ w.frozen? ⟨g, 1, none⟩ = false :=
  ⟨blk_frozen hh.out 0, blk_frozen hh.out 1⟩
theorem c3 {w : World} {g : Nat} {t : TypeId} {a b c : Value} (hh : Aside0 (w.heap[g]? = some (.cells #[a, b, c] t (0, 0)))) : w.cell? ⟨g, 0, none⟩ = some a ∧ w.cell? ⟨g, 1, none⟩ = some b ∧ w.cell? ⟨g, 2, none⟩ = some c :=
  ⟨(blk_cell hh.out 0).trans rfl, (blk_cell hh.out 1).trans rfl, (blk_cell hh.out 2).trans rfl⟩
theorem d3 {w : World} {g : Nat} {t : TypeId} {a b c : Value} (hh : Aside0 (w.heap[g]? = some (.cells #[a, b, c] t (0, 0)))) : w.cell? ⟨g, 0, none⟩ = some a ∧ w.cell? ⟨g, 1, none⟩ = some b ∧ w.cell? ⟨g, 2, none⟩ = some c ∧ w.frozen? ⟨g, 0, none⟩ = false ∧ w.frozen? ⟨g, 1, none⟩ = false ∧ w.frozen? ⟨g, 2, none⟩ = false :=
  ⟨(blk_cell hh.out 0).trans rfl, (blk_cell hh.out 1).trans rfl, (blk_cell hh.out 2).trans rfl, blk_frozen hh.out 0, blk_frozen hh.out 1, blk_frozen hh.out 2⟩
theorem f3 {w : World} {g : Nat} {t : TypeId} {a b c : Value} (hh : Aside0 (w.heap[g]? = some (.cells #[a, b, c] t (0, 0)))) : w.frozen? ⟨g, 0, none⟩ = false ∧ w.frozen? ⟨g, 1, none⟩ = false ∧ w.frozen? ⟨g, 2, none⟩ = false :=
  ⟨blk_frozen hh.out 0, blk_frozen hh.out 1, blk_frozen hh.out 2⟩
theorem c4 {w : World} {g : Nat} {t : TypeId} {a b c d : Value} (hh : Aside0 (w.heap[g]? = some (.cells #[a, b, c, d] t (0, 0)))) : w.cell? ⟨g, 0, none⟩ = some a ∧ w.cell? ⟨g, 1, none⟩ = some b ∧ w.cell? ⟨g, 2, none⟩ = some c ∧ w.cell? ⟨g, 3, none⟩ = some d :=
  ⟨(blk_cell hh.out 0).trans rfl, (blk_cell hh.out 1).trans rfl, (blk_cell hh.out 2).trans rfl, (blk_cell hh.out 3).trans rfl⟩
theorem d4 {w : World} {g : Nat} {t : TypeId} {a b c d : Value} (hh : Aside0 (w.heap[g]? = some (.cells #[a, b, c, d] t (0, 0)))) : w.cell? ⟨g, 0, none⟩ = some a ∧ w.cell? ⟨g, 1, none⟩ = some b ∧ w.cell? ⟨g, 2, none⟩ = some c ∧ w.cell? ⟨g, 3, none⟩ = some d ∧ w.frozen? ⟨g, 0, none⟩ = false ∧ w.frozen? ⟨g, 1, none⟩ = false ∧ w.frozen? ⟨g, 2, none⟩ = false ∧ w.frozen? ⟨g, 3, none⟩ = false :=
  ⟨(blk_cell hh.out 0).trans rfl, (blk_cell hh.out 1).trans rfl, (blk_cell hh.out 2).trans rfl, (blk_cell hh.out 3).trans rfl, blk_frozen hh.out 0, blk_frozen hh.out 1, blk_frozen hh.out 2, blk_frozen hh.out 3⟩
theorem f4 {w : World} {g : Nat} {t : TypeId} {a b c d : Value} (hh : Aside0 (w.heap[g]? = some (.cells #[a, b, c, d] t (0, 0)))) : w.frozen? ⟨g, 0, none⟩ = false ∧ w.frozen? ⟨g, 1, none⟩ = false ∧ w.frozen? ⟨g, 2, none⟩ = false ∧ w.frozen? ⟨g, 3, none⟩ = false :=
  ⟨blk_frozen hh.out 0, blk_frozen hh.out 1, blk_frozen hh.out 2, blk_frozen hh.out 3⟩
theorem c5 {w : World} {g : Nat} {t : TypeId} {a b c d e : Value} (hh : Aside0 (w.heap[g]? = some (.cells #[a, b, c, d, e] t (0, 0)))) : w.cell? ⟨g, 0, none⟩ = some a ∧ w.cell? ⟨g, 1, none⟩ = some b ∧ w.cell? ⟨g, 2, none⟩ = some c ∧ w.cell? ⟨g, 3, none⟩ = some d ∧ w.cell? ⟨g, 4, none⟩ = some e :=
  ⟨(blk_cell hh.out 0).trans rfl, (blk_cell hh.out 1).trans rfl, (blk_cell hh.out 2).trans rfl, (blk_cell hh.out 3).trans rfl, (blk_cell hh.out 4).trans rfl⟩
theorem d5 {w : World} {g : Nat} {t : TypeId} {a b c d e : Value} (hh : Aside0 (w.heap[g]? = some (.cells #[a, b, c, d, e] t (0, 0)))) : w.cell? ⟨g, 0, none⟩ = some a ∧ w.cell? ⟨g, 1, none⟩ = some b ∧ w.cell? ⟨g, 2, none⟩ = some c ∧ w.cell? ⟨g, 3, none⟩ = some d ∧ w.cell? ⟨g, 4, none⟩ = some e ∧ w.frozen? ⟨g, 0, none⟩ = false ∧ w.frozen? ⟨g, 1, none⟩ = false ∧ w.frozen? ⟨g, 2, none⟩ = false ∧ w.frozen? ⟨g, 3, none⟩ = false ∧ w.frozen? ⟨g, 4, none⟩ = false :=
  ⟨(blk_cell hh.out 0).trans rfl, (blk_cell hh.out 1).trans rfl, (blk_cell hh.out 2).trans rfl, (blk_cell hh.out 3).trans rfl, (blk_cell hh.out 4).trans rfl, blk_frozen hh.out 0, blk_frozen hh.out 1, blk_frozen hh.out 2, blk_frozen hh.out 3, blk_frozen hh.out 4⟩
theorem f5 {w : World} {g : Nat} {t : TypeId} {a b c d e : Value} (hh : Aside0 (w.heap[g]? = some (.cells #[a, b, c, d, e] t (0, 0)))) : w.frozen? ⟨g, 0, none⟩ = false ∧ w.frozen? ⟨g, 1, none⟩ = false ∧ w.frozen? ⟨g, 2, none⟩ = false ∧ w.frozen? ⟨g, 3, none⟩ = false ∧ w.frozen? ⟨g, 4, none⟩ = false :=
  ⟨blk_frozen hh.out 0, blk_frozen hh.out 1, blk_frozen hh.out 2, blk_frozen hh.out 3, blk_frozen hh.out 4⟩
theorem c6 {w : World} {g : Nat} {t : TypeId} {a b c d e f : Value} (hh : Aside0 (w.heap[g]? = some (.cells #[a, b, c, d, e, f] t (0, 0)))) : w.cell? ⟨g, 0, none⟩ = some a ∧ w.cell? ⟨g, 1, none⟩ = some b ∧ w.cell? ⟨g, 2, none⟩ = some c ∧ w.cell? ⟨g, 3, none⟩ = some d ∧ w.cell? ⟨g, 4, none⟩ = some e ∧ w.cell? ⟨g, 5, none⟩ = some f :=
  ⟨(blk_cell hh.out 0).trans rfl, (blk_cell hh.out 1).trans rfl, (blk_cell hh.out 2).trans rfl, (blk_cell hh.out 3).trans rfl, (blk_cell hh.out 4).trans rfl, (blk_cell hh.out 5).trans rfl⟩
theorem f6 {w : World} {g : Nat} {t : TypeId} {a b c d e f : Value} (hh : Aside0 (w.heap[g]? = some (.cells #[a, b, c, d, e, f] t (0, 0)))) : w.frozen? ⟨g, 0, none⟩ = false ∧ w.frozen? ⟨g, 1, none⟩ = false ∧ w.frozen? ⟨g, 2, none⟩ = false ∧ w.frozen? ⟨g, 3, none⟩ = false ∧ w.frozen? ⟨g, 4, none⟩ = false ∧ w.frozen? ⟨g, 5, none⟩ = false :=
  ⟨blk_frozen hh.out 0, blk_frozen hh.out 1, blk_frozen hh.out 2, blk_frozen hh.out 3, blk_frozen hh.out 4, blk_frozen hh.out 5⟩
theorem c7 {w : World} {g : Nat} {t : TypeId} {a b c d e f h : Value} (hh : Aside0 (w.heap[g]? = some (.cells #[a, b, c, d, e, f, h] t (0, 0)))) : w.cell? ⟨g, 0, none⟩ = some a ∧ w.cell? ⟨g, 1, none⟩ = some b ∧ w.cell? ⟨g, 2, none⟩ = some c ∧ w.cell? ⟨g, 3, none⟩ = some d ∧ w.cell? ⟨g, 4, none⟩ = some e ∧ w.cell? ⟨g, 5, none⟩ = some f ∧ w.cell? ⟨g, 6, none⟩ = some h :=
  ⟨(blk_cell hh.out 0).trans rfl, (blk_cell hh.out 1).trans rfl, (blk_cell hh.out 2).trans rfl, (blk_cell hh.out 3).trans rfl, (blk_cell hh.out 4).trans rfl, (blk_cell hh.out 5).trans rfl, (blk_cell hh.out 6).trans rfl⟩
theorem d7 {w : World} {g : Nat} {t : TypeId} {a b c d e f h : Value} (hh : Aside0 (w.heap[g]? = some (.cells #[a, b, c, d, e, f, h] t (0, 0)))) : w.cell? ⟨g, 0, none⟩ = some a ∧ w.cell? ⟨g, 1, none⟩ = some b ∧ w.cell? ⟨g, 2, none⟩ = some c ∧ w.cell? ⟨g, 3, none⟩ = some d ∧ w.cell? ⟨g, 4, none⟩ = some e ∧ w.cell? ⟨g, 5, none⟩ = some f ∧ w.cell? ⟨g, 6, none⟩ = some h ∧ w.frozen? ⟨g, 0, none⟩ = false ∧ w.frozen? ⟨g, 1, none⟩ = false ∧ w.frozen? ⟨g, 2, none⟩ = false ∧ w.frozen? ⟨g, 3, none⟩ = false ∧ w.frozen? ⟨g, 4, none⟩ = false ∧ w.frozen? ⟨g, 5, none⟩ = false ∧ w.frozen? ⟨g, 6, none⟩ = false :=
  ⟨(blk_cell hh.out 0).trans rfl, (blk_cell hh.out 1).trans rfl, (blk_cell hh.out 2).trans rfl, (blk_cell hh.out 3).trans rfl, (blk_cell hh.out 4).trans rfl, (blk_cell hh.out 5).trans rfl, (blk_cell hh.out 6).trans rfl, blk_frozen hh.out 0, blk_frozen hh.out 1, blk_frozen hh.out 2, blk_frozen hh.out 3, blk_frozen hh.out 4, blk_frozen hh.out 5, blk_frozen hh.out 6⟩
theorem bk {w w1 w2 : World} {g : Nat} {o : Obj} (h : Aside0 (w.heap[g]? = some o)) (hb : Below w1.heap.size w1 w2) (hp : w1.heap[g]? = some o := by
    (with_reducible repeat (first | refine blk_drewN ?_ _ | refine blk_drew ?_ | refine blk_alloc ?_ _))
    exact Aside0.out (by assumption)) : Aside0 (w2.heap[g]? = some o) := ⟨blk_below hp hb⟩
theorem bs {w w2 w3 : World} (hb : Below w2.heap.size w2 w3) (hp : Below w.heap.size w w2 := by
    repeat (first | (with_reducible first | (refine Aside0.out ?_; assumption) | apply below_alloc | apply pw_below_drewN | apply below_drew1 | (refine below_set ?_ (Aside0.out ?_); rotate_left; assumption)) | (refine Aside0.out ?_; assumption))) : Aside0 (Below w.heap.size w w3) := ⟨below_step hp hb⟩
theorem gs {w w2 : World} {g : Nat} (hg : g = w2.heap.size) (hp : Below w.heap.size w w2 := by
    repeat (first | (with_reducible first | (refine Aside0.out ?_; assumption) | apply below_alloc | apply pw_below_drewN | apply below_drew1 | (refine below_set ?_ (Aside0.out ?_); rotate_left; assumption)) | (refine Aside0.out ?_; assumption))) : w.heap.size ≤ g := by rw [hg]; exact below_size hp
theorem nl {w w1 : World} {g g' : Nat} {o : Obj} (h : Aside0 (w.heap[g]? = some o)) (hg : g' = w1.heap.size) (hp : w1.heap[g]? = some o := by
    (with_reducible repeat (first | refine blk_drewN ?_ _ | refine blk_drew ?_ | refine blk_alloc ?_ _))
    exact Aside0.out (by assumption)) : g ≠ g' := by rw [hg]; exact Nat.ne_of_lt (blk_lt hp)
theorem nr {w w1 : World} {g g' : Nat} {o : Obj} (h : Aside0 (w.heap[g]? = some o)) (hg : g' = w1.heap.size) (hp : w1.heap[g]? = some o := by
    (with_reducible repeat (first | refine blk_drewN ?_ _ | refine blk_drew ?_ | refine blk_alloc ?_ _))
    exact Aside0.out (by assumption)) : g' ≠ g := by rw [hg]; exact Nat.ne_of_gt (blk_lt hp)
theorem cb {α : Type} {d : Kd α} {w w2 : World} {A : Option Addr} {n : Nat} {xs : List α} (h : Aside0 (d.C w A n xs)) (hp : Below w.heap.size w w2 := by
    repeat (first | (with_reducible first | (refine Aside0.out ?_; assumption) | apply below_alloc | apply pw_below_drewN | apply below_drew1 | (refine below_set ?_ (Aside0.out ?_); rotate_left; assumption)) | (refine Aside0.out ?_; assumption))) : d.C w2 A n xs := Kd.C_below h.out hp
theorem rb {α : Type} {d : Kd α} {e base : Nat} {w w1 w2 : World} {ok : Nat → Prop} {v : Value} {xs : List α} (h : Aside0 (d.R e w base ok v xs)) (hb : Below w1.heap.size w1 w2) (hp : d.R e w1 base ok v xs := by
    (with_reducible repeat (first | apply Kd.R_alloc | apply Kd.R_drewN | apply Kd.R_drew))
    exact Aside0.out (by assumption)) : Aside0 (d.R e w2 base ok v xs) := ⟨Kd.R_below hp hb⟩
theorem a3 {w : World} {g : Nat} {t : TypeId} {a0 a1 a2 b0 b1 b2 : Value} (h : w.heap[g]? = some (.cells #[a0, a1, a2] t (0, 0))) : (((w.setCell ⟨g, 0, none⟩ b0).setCell ⟨g, 1, none⟩ b1).setCell ⟨g, 2, none⟩ b2).heap[g]? = some (.cells #[b0, b1, b2] t (0, 0)) := blk_put (cs' := #[b0, b1, b2]) (blk_put (cs' := #[b0, b1, a2]) (blk_put (cs' := #[b0, a1, a2]) h 0 b0 rfl) 1 b1 rfl) 2 b2 rfl
theorem a4 {w : World} {g : Nat} {t : TypeId} {a0 a1 a2 a3 b0 b1 b2 b3 : Value} (h : w.heap[g]? = some (.cells #[a0, a1, a2, a3] t (0, 0))) : ((((w.setCell ⟨g, 0, none⟩ b0).setCell ⟨g, 1, none⟩ b1).setCell ⟨g, 2, none⟩ b2).setCell ⟨g, 3, none⟩ b3).heap[g]? = some (.cells #[b0, b1, b2, b3] t (0, 0)) := blk_put (cs' := #[b0, b1, b2, b3]) (blk_put (cs' := #[b0, b1, b2, a3]) (blk_put (cs' := #[b0, b1, a2, a3]) (blk_put (cs' := #[b0, a1, a2, a3]) h 0 b0 rfl) 1 b1 rfl) 2 b2 rfl) 3 b3 rfl
theorem a5 {w : World} {g : Nat} {t : TypeId} {a0 a1 a2 a3 a4 b0 b1 b2 b3 b4 : Value} (h : w.heap[g]? = some (.cells #[a0, a1, a2, a3, a4] t (0, 0))) : (((((w.setCell ⟨g, 0, none⟩ b0).setCell ⟨g, 1, none⟩ b1).setCell ⟨g, 2, none⟩ b2).setCell ⟨g, 3, none⟩ b3).setCell ⟨g, 4, none⟩ b4).heap[g]? = some (.cells #[b0, b1, b2, b3, b4] t (0, 0)) := blk_put (cs' := #[b0, b1, b2, b3, b4]) (blk_put (cs' := #[b0, b1, b2, b3, a4]) (blk_put (cs' := #[b0, b1, b2, a3, a4]) (blk_put (cs' := #[b0, b1, a2, a3, a4]) (blk_put (cs' := #[b0, a1, a2, a3, a4]) h 0 b0 rfl) 1 b1 rfl) 2 b2 rfl) 3 b3 rfl) 4 b4 rfl
theorem a6 {w : World} {g : Nat} {t : TypeId} {a0 a1 a2 a3 a4 a5 b0 b1 b2 b3 b4 b5 : Value} (h : w.heap[g]? = some (.cells #[a0, a1, a2, a3, a4, a5] t (0, 0))) : ((((((w.setCell ⟨g, 0, none⟩ b0).setCell ⟨g, 1, none⟩ b1).setCell ⟨g, 2, none⟩ b2).setCell ⟨g, 3, none⟩ b3).setCell ⟨g, 4, none⟩ b4).setCell ⟨g, 5, none⟩ b5).heap[g]? = some (.cells #[b0, b1, b2, b3, b4, b5] t (0, 0)) := blk_put (cs' := #[b0, b1, b2, b3, b4, b5]) (blk_put (cs' := #[b0, b1, b2, b3, b4, a5]) (blk_put (cs' := #[b0, b1, b2, b3, a4, a5]) (blk_put (cs' := #[b0, b1, b2, a3, a4, a5]) (blk_put (cs' := #[b0, b1, a2, a3, a4, a5]) (blk_put (cs' := #[b0, a1, a2, a3, a4, a5]) h 0 b0 rfl) 1 b1 rfl) 2 b2 rfl) 3 b3 rfl) 4 b4 rfl) 5 b5 rfl
theorem a7 {w : World} {g : Nat} {t : TypeId} {a0 a1 a2 a3 a4 a5 a6 b0 b1 b2 b3 b4 b5 b6 : Value} (h : w.heap[g]? = some (.cells #[a0, a1, a2, a3, a4, a5, a6] t (0, 0))) : (((((((w.setCell ⟨g, 0, none⟩ b0).setCell ⟨g, 1, none⟩ b1).setCell ⟨g, 2, none⟩ b2).setCell ⟨g, 3, none⟩ b3).setCell ⟨g, 4, none⟩ b4).setCell ⟨g, 5, none⟩ b5).setCell ⟨g, 6, none⟩ b6).heap[g]? = some (.cells #[b0, b1, b2, b3, b4, b5, b6] t (0, 0)) := blk_put (cs' := #[b0, b1, b2, b3, b4, b5, b6]) (blk_put (cs' := #[b0, b1, b2, b3, b4, b5, a6]) (blk_put (cs' := #[b0, b1, b2, b3, b4, a5, a6]) (blk_put (cs' := #[b0, b1, b2, b3, a4, a5, a6]) (blk_put (cs' := #[b0, b1, b2, a3, a4, a5, a6]) (blk_put (cs' := #[b0, b1, a2, a3, a4, a5, a6]) (blk_put (cs' := #[b0, a1, a2, a3, a4, a5, a6]) h 0 b0 rfl) 1 b1 rfl) 2 b2 rfl) 3 b3 rfl) 4 b4 rfl) 5 b5 rfl) 6 b6 rfl
theorem er {p : Prop} (h : p := by first | rfl | (simp [errW_none, errW_some] <;> rfl) | (simp [*, errW_none, errW_some] <;> rfl)) : p := h
theorem si {p : Prop} (h : p := by first | rfl | (simp; done) | (simp [*]; done)) : p := h
theorem rh {p : Prop} (h : p := by
    (with_reducible repeat (first | apply Kd.R_alloc | apply Kd.R_drewN | apply Kd.R_drew))
    exact Aside0.out (by assumption)) : p := h
theorem rq {α : Type} {d : Kd α} {e base : Nat} {w w1 : World} {ok : Nat → Prop} {v : Value} {xs : List α} (h : Aside0 (d.R e w base ok v xs)) (hp : d.R e w1 base ok v xs := by
    (with_reducible repeat (first | apply Kd.R_alloc | apply Kd.R_drewN | apply Kd.R_drew))
    exact Aside0.out (by assumption)) : d.R e w1 base ok v xs := hp
theorem bw {w w1 w2 : World} {g : Nat} {o : Obj} {row : Option Nat} (h : Aside0 (w.heap[g]? = some o)) (hg : w1.grownBy w2 row) (hr : some g ≠ row) (hp : w1.heap[g]? = some o := by
    (with_reducible repeat (first | refine blk_drewN ?_ _ | refine blk_drew ?_ | refine blk_alloc ?_ _))
    exact Aside0.out (by assumption)) : Aside0 (w2.heap[g]? = some o) := ⟨blk_grown hp hg hr⟩
theorem bl {w w2 : World} (hp : Below w.heap.size w w2 := by
    repeat (first | (with_reducible first | (refine Aside0.out ?_; assumption) | apply below_alloc | apply pw_below_drewN | apply below_drew1 | (refine below_set ?_ (Aside0.out ?_); rotate_left; assumption)) | (refine Aside0.out ?_; assumption))) : Below w.heap.size w w2 := hp
theorem sb {α : Type} {d : Kd α} {e base : Nat} {w w1 w2 : World} {ok : Nat → Prop} {v : Value} {xs : List α} (h : Aside0 (Kd.S d e w base ok v xs)) (hb : Below w1.heap.size w1 w2) (hp : Kd.S d e w1 base ok v xs := by
    (with_reducible repeat (first | apply Kd.S_alloc | apply Kd.S_drewN | apply Kd.S_drew))
    exact Aside0.out (by assumption)) : Aside0 (Kd.S d e w2 base ok v xs) := ⟨Kd.S_below hp hb⟩
theorem rf {α : Type} {d : Kd α} {e base : Nat} {w : World} {ok : Nat → Prop} {v u : Value} {xs : List α} {p : Addr} (h : d.R e w base ok v xs) (hok : ∀ k, ok k → k ≠ p.block := by exact fun _ hk => hk.2) : d.R e (w.setCell p u) base ok v xs := Kd.R_far h hok u
section
variable {P : Program} {ops : Array Oper} {Q : Exit → Act → World → Prop} {md : Region.Mode} {S : World → Prop} {ds : List Nat} {T : Bool × List (List Nat × List Nat)} {B : List Nat}
theorem qP {oi : Oper} {v : Value} {fuel : Nat} {l : Array Bool} {a a' : Act} {w : World} (i N : Nat) (hT : Aside0 (rtab md ops = T)) (h : wpAnyLast P md ops Q S ds fuel (l.setIfInBounds i true) a' w)
    (hi : ops[i]? = some oi := by rfl) (hQ : ∀ c a w, Q (.panic c) (a.put oi.dst v) w → Q (.panic c) a w := by exact fun _ _ _ h => h) (hN : oi.dst = some N := by rfl) (hc : anyT T l.toList (l.setIfInBounds i true).toList i = true := by kernel_rfl) (hw : Region.wanted oi (yielded ops a.tmps) = true := by rfl)
    (hr : ∀ w', (execOp a.eval oi).run P w' = .ok (.value v) w' := by intro w'; go_simp; with_reducible rfl) (ha : a.put (some N) v = a' := by simp only [Act.put, Kx.sb, Kx.sz, Kx.ss, i64_w, i32_w]; rfl) : wpAnyLast P md ops Q S ds (fuel + 1) l a w :=
  pure_ (i := i) (N := some N) _ hi hN (any_of hT.out hc) hQ (Or.inl ⟨hw, hr⟩) ha h
theorem qU {oi : Oper} {fuel : Nat} {l : Array Bool} {a a' : Act} {w : World} (i N : Nat) (hT : Aside0 (rtab md ops = T)) (h : wpAnyLast P md ops Q S ds fuel (l.setIfInBounds i true) a' w)
    (hi : ops[i]? = some oi := by rfl) (hQ : ∀ c a w, Q (.panic c) (a.put oi.dst undef) w → Q (.panic c) a w := by exact fun _ _ _ h => h) (hN : oi.dst = some N := by rfl) (hc : anyT T l.toList (l.setIfInBounds i true).toList i = true := by kernel_rfl) (hw : Region.wanted oi (yielded ops a.tmps) = false := by rfl)
    (ha : a.put (some N) undef = a' := by simp only [Act.put, Kx.sb, Kx.sz, Kx.ss, i64_w, i32_w]; rfl) : wpAnyLast P md ops Q S ds (fuel + 1) l a w :=
  pure_ (i := i) (N := some N) _ hi hN (any_of hT.out hc) hQ (Or.inr ⟨hw, rfl⟩) ha h
theorem qT {oi : Oper} {v : Value} {fuel : Nat} {l : Array Bool} {a a' : Act} {w : World} (i N : Nat) (hT : Aside0 (rtab md ops = T)) (hW : Aside0 (waitsOk T.2 B = true)) (hS : S w) (h : wpAnyLast P md ops Q S ds fuel (l.setIfInBounds i true) a' w)
    (hi : ops[i]? = some oi := by rfl) (hQ : ∀ c a w, Q (.panic c) (a.put oi.dst v) w → Q (.panic c) a w := by exact fun _ _ _ h => h) (hN : oi.dst = some N := by rfl) (hc : takeW T B ds l.toList (l.setIfInBounds i true).toList i = true := by kernel_rfl) (hw : Region.wanted oi (yielded ops a.tmps) = true := by rfl)
    (hr : ∀ w', S w' → (execOp a.eval oi).run P w' = .ok (.value v) w' := by intro w' hS_; go_simp; with_reducible rfl) (ha : a.put (some N) v = a' := by simp only [Act.put, Kx.sb, Kx.sz, Kx.ss, i64_w, i32_w]; rfl) : wpAnyLast P md ops Q S ds (fuel + 1) l a w :=
  take_ (i := i) (N := some N) _ hi hN (take_ofW hT.out hW.out hc) hQ (Or.inl ⟨hw, hr⟩) hS ha h
theorem qO {oi : Oper} {N : Option Tmp} {fuel : Nat} {l : Array Bool} {a : Act} {w : World} (i : Nat) (hT : Aside0 (rtab md ops = T))
    (h : ∀ K : Act → World → Prop, Shut (∀ a' w', S w' → (S w' → wpAnyLast P md ops Q S ds fuel (l.setIfInBounds i true) a' w') → K a' w') → if Region.wanted oi (yielded ops a.tmps) = true then Oper.wp P oi a w K Q else K (a.put N undef) w)
    (hi : ops[i]? = some oi := by rfl) (hN : oi.dst = N := by rfl) (hc : (readyT T.2 l.toList == [i] && l.toList.set i true == (l.setIfInBounds i true).toList) = true := by kernel_rfl) (hd : i ∉ ds := by decide) : wpAnyLast P md ops Q S ds (fuel + 1) l a w :=
  one_ (i := i) _ hi hN (one_of hT.out hc) hd h
theorem rP {oi : Oper} {v : Value} {fuel : Nat} {l : Array Bool} {a a' : Act} {w : World} (i N : Nat) (h : wpAnyLast P md ops Q S ds fuel (l.setIfInBounds i true) a' w)
    (hi : ops[i]? = some oi := by rfl) (hQ : ∀ c a w, Q (.panic c) (a.put oi.dst v) w → Q (.panic c) a w := by exact fun _ _ _ h => h) (hN : oi.dst = some N := by rfl) (hc : anyB md ops l (l.setIfInBounds i true) i = true := by kernel_rfl) (hw : Region.wanted oi (yielded ops a.tmps) = true := by rfl)
    (hr : ∀ w', (execOp a.eval oi).run P w' = .ok (.value v) w' := by intro w'; go_simp; with_reducible rfl) (ha : a.put (some N) v = a' := by simp only [Act.put, Kx.sb, Kx.sz, Kx.ss, i64_w, i32_w]; rfl) : wpAnyLast P md ops Q S ds (fuel + 1) l a w :=
  pure_ (i := i) (N := some N) _ hi hN hc hQ (Or.inl ⟨hw, hr⟩) ha h
theorem rU {oi : Oper} {fuel : Nat} {l : Array Bool} {a a' : Act} {w : World} (i N : Nat) (h : wpAnyLast P md ops Q S ds fuel (l.setIfInBounds i true) a' w)
    (hi : ops[i]? = some oi := by rfl) (hQ : ∀ c a w, Q (.panic c) (a.put oi.dst undef) w → Q (.panic c) a w := by exact fun _ _ _ h => h) (hN : oi.dst = some N := by rfl) (hc : anyB md ops l (l.setIfInBounds i true) i = true := by kernel_rfl) (hw : Region.wanted oi (yielded ops a.tmps) = false := by rfl)
    (ha : a.put (some N) undef = a' := by simp only [Act.put, Kx.sb, Kx.sz, Kx.ss, i64_w, i32_w]; rfl) : wpAnyLast P md ops Q S ds (fuel + 1) l a w :=
  pure_ (i := i) (N := some N) _ hi hN hc hQ (Or.inr ⟨hw, rfl⟩) ha h
theorem rO {oi : Oper} {N : Option Tmp} {fuel : Nat} {l : Array Bool} {a : Act} {w : World} (i : Nat)
    (h : ∀ K : Act → World → Prop, Shut (∀ a' w', S w' → (S w' → wpAnyLast P md ops Q S ds fuel (l.setIfInBounds i true) a' w') → K a' w') → if Region.wanted oi (yielded ops a.tmps) = true then Oper.wp P oi a w K Q else K (a.put N undef) w)
    (hi : ops[i]? = some oi := by rfl) (hN : oi.dst = N := by rfl) (hc : readyB md ops l (l.setIfInBounds i true) i = true := by kernel_rfl) (hd : i ∉ ds := by decide) : wpAnyLast P md ops Q S ds (fuel + 1) l a w :=
  one_ (i := i) _ hi hN hc hd h
theorem rT {oi : Oper} {v : Value} {fuel : Nat} {l : Array Bool} {a a' : Act} {w : World} (i N : Nat) (hS : S w) (h : wpAnyLast P md ops Q S ds fuel (l.setIfInBounds i true) a' w)
    (hi : ops[i]? = some oi := by rfl) (hQ : ∀ c a w, Q (.panic c) (a.put oi.dst v) w → Q (.panic c) a w := by exact fun _ _ _ h => h) (hN : oi.dst = some N := by rfl) (hc : takeB md ops ds l (l.setIfInBounds i true) i = true := by kernel_rfl) (hw : Region.wanted oi (yielded ops a.tmps) = true := by rfl)
    (hr : ∀ w', S w' → (execOp a.eval oi).run P w' = .ok (.value v) w' := by intro w' hS_; go_simp; with_reducible rfl) (ha : a.put (some N) v = a' := by simp only [Act.put, Kx.sb, Kx.sz, Kx.ss, i64_w, i32_w]; rfl) : wpAnyLast P md ops Q S ds (fuel + 1) l a w :=
  take_ (i := i) (N := some N) _ hi hN hc hQ (Or.inl ⟨hw, hr⟩) hS ha h
theorem rL {oi : Oper} {N : Option Tmp} {fuel : Nat} {l : Array Bool} {a : Act} {w : World} (i : Nat)
    (h : ∀ K : Act → World → Prop, Shut (∀ a' w', wpAnyLast P md ops Q S ds fuel (l.setIfInBounds i true) a' w' → K a' w') → if Region.wanted oi (yielded ops a.tmps) = true then Oper.wp P oi a w K Q else K (a.put N undef) w)
    (hi : ops[i]? = some oi := by rfl) (hN : oi.dst = N := by rfl) (hc : readyB md ops l (l.setIfInBounds i true) i = true := by kernel_rfl) (hd : i ∈ ds := by decide) : wpAnyLast P md ops Q S ds (fuel + 1) l a w :=
  last_ (i := i) _ hi hN hc hd h
theorem nm {fuel : Nat} {l : Array Bool} {a a' : Act} {v : Value} {w : World} (N : Option Tmp) (h : wpAnyLast P md ops Q S ds fuel l a' w) (ha : a.put N v = a' := by simp only [Act.put, Kx.sb, Kx.sz, Kx.ss, i64_w, i32_w]; rfl) : wpAnyLast P md ops Q S ds fuel l (a.put N v) w :=
  norm_ ha h
theorem s1 {id n g : Nat} {t : TypeId} {a : Value} {k : Act} {w : World} (hh : Aside0 (w.drew.heap[g]? = some (.cells #[a] t (0, 0)))) (h : (fun w' : World => w'.cell? ⟨g, 0, none⟩ = some a) w.drew → wpAnyLast P .any ops Q (fun w' => w'.cell? ⟨g, 0, none⟩ = some a) ds n (Array.replicate n false) k w.drew)
    (hm : P.follows .mixedOrders = true := by kernel_rfl) (hn : ops.size = n := by rfl) : (Code.region id ops true).wp P Q k w :=
  start_ (n := n) (S := fun w' => w'.cell? ⟨g, 0, none⟩ = some a) _ hm hn rfl ((blk_cell hh.out 0).trans rfl) h
theorem s2 {id n g : Nat} {t : TypeId} {a b : Value} {k : Act} {w : World} (hh : Aside0 (w.drew.heap[g]? = some (.cells #[a, b] t (0, 0)))) (h : (fun w' : World => w'.cell? ⟨g, 0, none⟩ = some a ∧ w'.cell? ⟨g, 1, none⟩ = some b) w.drew → wpAnyLast P .any ops Q (fun w' => w'.cell? ⟨g, 0, none⟩ = some a ∧ w'.cell? ⟨g, 1, none⟩ = some b) ds n (Array.replicate n false) k w.drew)
    (hm : P.follows .mixedOrders = true := by kernel_rfl) (hn : ops.size = n := by rfl) : (Code.region id ops true).wp P Q k w :=
  start_ (n := n) (S := fun w' => w'.cell? ⟨g, 0, none⟩ = some a ∧ w'.cell? ⟨g, 1, none⟩ = some b) _ hm hn rfl (⟨(blk_cell hh.out 0).trans rfl, (blk_cell hh.out 1).trans rfl⟩) h
theorem s3 {id n g : Nat} {t : TypeId} {a b c : Value} {k : Act} {w : World} (hh : Aside0 (w.drew.heap[g]? = some (.cells #[a, b, c] t (0, 0)))) (h : (fun w' : World => w'.cell? ⟨g, 0, none⟩ = some a ∧ w'.cell? ⟨g, 1, none⟩ = some b ∧ w'.cell? ⟨g, 2, none⟩ = some c) w.drew → wpAnyLast P .any ops Q (fun w' => w'.cell? ⟨g, 0, none⟩ = some a ∧ w'.cell? ⟨g, 1, none⟩ = some b ∧ w'.cell? ⟨g, 2, none⟩ = some c) ds n (Array.replicate n false) k w.drew)
    (hm : P.follows .mixedOrders = true := by kernel_rfl) (hn : ops.size = n := by rfl) : (Code.region id ops true).wp P Q k w :=
  start_ (n := n) (S := fun w' => w'.cell? ⟨g, 0, none⟩ = some a ∧ w'.cell? ⟨g, 1, none⟩ = some b ∧ w'.cell? ⟨g, 2, none⟩ = some c) _ hm hn rfl (⟨(blk_cell hh.out 0).trans rfl, (blk_cell hh.out 1).trans rfl, (blk_cell hh.out 2).trans rfl⟩) h
theorem s4 {id n g : Nat} {t : TypeId} {a b c d : Value} {k : Act} {w : World} (hh : Aside0 (w.drew.heap[g]? = some (.cells #[a, b, c, d] t (0, 0)))) (h : (fun w' : World => w'.cell? ⟨g, 0, none⟩ = some a ∧ w'.cell? ⟨g, 1, none⟩ = some b ∧ w'.cell? ⟨g, 2, none⟩ = some c ∧ w'.cell? ⟨g, 3, none⟩ = some d) w.drew → wpAnyLast P .any ops Q (fun w' => w'.cell? ⟨g, 0, none⟩ = some a ∧ w'.cell? ⟨g, 1, none⟩ = some b ∧ w'.cell? ⟨g, 2, none⟩ = some c ∧ w'.cell? ⟨g, 3, none⟩ = some d) ds n (Array.replicate n false) k w.drew)
    (hm : P.follows .mixedOrders = true := by kernel_rfl) (hn : ops.size = n := by rfl) : (Code.region id ops true).wp P Q k w :=
  start_ (n := n) (S := fun w' => w'.cell? ⟨g, 0, none⟩ = some a ∧ w'.cell? ⟨g, 1, none⟩ = some b ∧ w'.cell? ⟨g, 2, none⟩ = some c ∧ w'.cell? ⟨g, 3, none⟩ = some d) _ hm hn rfl (⟨(blk_cell hh.out 0).trans rfl, (blk_cell hh.out 1).trans rfl, (blk_cell hh.out 2).trans rfl, (blk_cell hh.out 3).trans rfl⟩) h
theorem s5 {id n g : Nat} {t : TypeId} {a b c d e : Value} {k : Act} {w : World} (hh : Aside0 (w.drew.heap[g]? = some (.cells #[a, b, c, d, e] t (0, 0)))) (h : (fun w' : World => w'.cell? ⟨g, 0, none⟩ = some a ∧ w'.cell? ⟨g, 1, none⟩ = some b ∧ w'.cell? ⟨g, 2, none⟩ = some c ∧ w'.cell? ⟨g, 3, none⟩ = some d ∧ w'.cell? ⟨g, 4, none⟩ = some e) w.drew → wpAnyLast P .any ops Q (fun w' => w'.cell? ⟨g, 0, none⟩ = some a ∧ w'.cell? ⟨g, 1, none⟩ = some b ∧ w'.cell? ⟨g, 2, none⟩ = some c ∧ w'.cell? ⟨g, 3, none⟩ = some d ∧ w'.cell? ⟨g, 4, none⟩ = some e) ds n (Array.replicate n false) k w.drew)
    (hm : P.follows .mixedOrders = true := by kernel_rfl) (hn : ops.size = n := by rfl) : (Code.region id ops true).wp P Q k w :=
  start_ (n := n) (S := fun w' => w'.cell? ⟨g, 0, none⟩ = some a ∧ w'.cell? ⟨g, 1, none⟩ = some b ∧ w'.cell? ⟨g, 2, none⟩ = some c ∧ w'.cell? ⟨g, 3, none⟩ = some d ∧ w'.cell? ⟨g, 4, none⟩ = some e) _ hm hn rfl (⟨(blk_cell hh.out 0).trans rfl, (blk_cell hh.out 1).trans rfl, (blk_cell hh.out 2).trans rfl, (blk_cell hh.out 3).trans rfl, (blk_cell hh.out 4).trans rfl⟩) h
theorem s7 {id n g : Nat} {t : TypeId} {a b c d e f u : Value} {k : Act} {w : World} (hh : Aside0 (w.drew.heap[g]? = some (.cells #[a, b, c, d, e, f, u] t (0, 0)))) (h : (fun w' : World => w'.cell? ⟨g, 0, none⟩ = some a ∧ w'.cell? ⟨g, 1, none⟩ = some b ∧ w'.cell? ⟨g, 2, none⟩ = some c ∧ w'.cell? ⟨g, 3, none⟩ = some d ∧ w'.cell? ⟨g, 4, none⟩ = some e ∧ w'.cell? ⟨g, 5, none⟩ = some f ∧ w'.cell? ⟨g, 6, none⟩ = some u) w.drew → wpAnyLast P .any ops Q (fun w' => w'.cell? ⟨g, 0, none⟩ = some a ∧ w'.cell? ⟨g, 1, none⟩ = some b ∧ w'.cell? ⟨g, 2, none⟩ = some c ∧ w'.cell? ⟨g, 3, none⟩ = some d ∧ w'.cell? ⟨g, 4, none⟩ = some e ∧ w'.cell? ⟨g, 5, none⟩ = some f ∧ w'.cell? ⟨g, 6, none⟩ = some u) ds n (Array.replicate n false) k w.drew)
    (hm : P.follows .mixedOrders = true := by kernel_rfl) (hn : ops.size = n := by rfl) : (Code.region id ops true).wp P Q k w :=
  start_ (n := n) (S := fun w' => w'.cell? ⟨g, 0, none⟩ = some a ∧ w'.cell? ⟨g, 1, none⟩ = some b ∧ w'.cell? ⟨g, 2, none⟩ = some c ∧ w'.cell? ⟨g, 3, none⟩ = some d ∧ w'.cell? ⟨g, 4, none⟩ = some e ∧ w'.cell? ⟨g, 5, none⟩ = some f ∧ w'.cell? ⟨g, 6, none⟩ = some u) _ hm hn rfl (⟨(blk_cell hh.out 0).trans rfl, (blk_cell hh.out 1).trans rfl, (blk_cell hh.out 2).trans rfl, (blk_cell hh.out 3).trans rfl, (blk_cell hh.out 4).trans rfl, (blk_cell hh.out 5).trans rfl, (blk_cell hh.out 6).trans rfl⟩) h
theorem bx {rest : List Oper} {oi : Oper} {a : Act} {w : World} {N : Tmp} (cs : Array Value) (t : TypeId)
    (h : ∀ g, g = w.heap.size → ∀ w1, w1.heap[g]? = some (.cells cs t (0, 0)) → Below w.heap.size w w1 → wpList P ops Q rest (a.put oi.dst (.pointer (some ⟨g, 0, none⟩))) w1)
    (hd : oi.dst = some N := by rfl) (hg : oi.guard = none := by rfl) (hr : (execOp a.eval oi).run P w = .ok (.value (.pointer (some ⟨w.heap.size, 0, none⟩))) (w.alloc (.cells cs t (0, 0))) := by first | (go_simp; done) | (go_simp; rfl)) : wpList P ops Q (oi :: rest) a w :=
  box_event hg hd hr h
theorem gL {rest : List Oper} {oi : Oper} {a : Act} {w : World} {N : Option Tmp} {f : FuncId} {fn : Func} {as : Array Operand} {ts : Array TypeId} (hf : P.funcs[f]? = some fn) (args : Array Value) (h : Calls P f args w fun e w' => ∃ v, e = .returned v ∧ wpList P ops Q rest (a.put N v) w')
    (hd : oi.dst = N := by rfl) (hg : oi.guard = none := by rfl) (hname : (fn.name == "runtime.NumGoroutine") = false := by kernel_rfl) (hb : fn.body.isSome = true := by rfl)
    (hop : oi.op = .call { callee := .value (.func f), args := as, argTypes := ts } := by rfl) (hargs : as.map a.eval = args := by (try simp only [List.map_toArray, List.map_cons, List.map_nil]); first | done | rfl | (simp only [List.length_drop, List.length_take]; rfl)) : wpList P ops Q (oi :: rest) a w :=
  goesL_ N hd hg hf hname hb args hop hargs h
theorem gO {oi : Oper} {N : Option Tmp} {a : Act} {w : World} {K : Act → World → Prop} {f : FuncId} {fn : Func} {as : Array Operand} {ts : Array TypeId} (hf : P.funcs[f]? = some fn) (args : Array Value)
    (h : Calls P f args w fun e w' => ∃ v, e = .returned v ∧ K (a.put N v) w') (hw : Region.wanted oi (yielded ops a.tmps) = true := by rfl) (hN : oi.dst = N := by rfl) (hname : (fn.name == "runtime.NumGoroutine") = false := by kernel_rfl) (hb : fn.body.isSome = true := by rfl)
    (hop : oi.op = .call { callee := .value (.func f), args := as, argTypes := ts } := by rfl) (hargs : as.map a.eval = args := by (try simp only [List.map_toArray, List.map_cons, List.map_nil]); first | done | rfl | (simp only [List.length_drop, List.length_take]; rfl)) : if Region.wanted oi (yielded ops a.tmps) = true then Oper.wp P oi a w K Q else K (a.put N undef) w :=
  goes_ hf hname hb args hw hN hop hargs h
end
end Go.Proofs.Ytohkmmbmfhficaa.Cz
