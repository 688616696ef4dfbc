/- Words and walks that this claim names, of those that the kit's print and programs of this workplace have printed. -/
import Derived.Test.YtmgohkffphogdaaZKWWords
import Derived.Test.YtmgohkffphogdaaZKWMore
import Derived.Test.YtmgohkffphogdaaZKWLast
import Derived.Test.YtmgohkffphogdaaZKWTab
import Derived.Test.YtmgohkffphogdaaZKWApart
import Derived.WalkKit
import Derived.KernelRfl
set_option linter.unusedVariables false
namespace Go.Proofs.Ytmgohkffphogdaa.Cz
open Go Go.RowKit Go.Proofs.YtmgohkffphogdaaW.PrintWords Go.Proofs.YtmgohkffphogdaaW.PrintLast
theorem c1 {w : World} {g : Nat} {t : TypeId} {a : Value} (hh : Aside0 (w.heap[g]? = some (.cells #[a] t (0, 0)))) : w.cell? ⟨g, 0, none⟩ = some a := (blk_cell hh.out 0).trans rfl
theorem d1 {w : World} {g : Nat} {t : TypeId} {a : Value} (hh : Aside0 (w.heap[g]? = some (.cells #[a] t (0, 0)))) : w.cell? ⟨g, 0, none⟩ = some a ∧ w.frozen? ⟨g, 0, none⟩ = false :=
  ⟨(blk_cell hh.out 0).trans rfl, blk_frozen hh.out 0⟩
theorem f1 {w : World} {g : Nat} {t : TypeId} {a : Value} (hh : Aside0 (w.heap[g]? = some (.cells #[a] t (0, 0)))) : w.frozen? ⟨g, 0, none⟩ = false := blk_frozen hh.out 0
theorem c2 {w : World} {g : Nat} {t : TypeId} {a b : Value} (hh : Aside0 (w.heap[g]? = some (.cells #[a, b] t (0, 0)))) : w.cell? ⟨g, 0, none⟩ = some a ∧ w.cell? ⟨g, 1, none⟩ = some b :=
  ⟨(blk_cell hh.out 0).trans rfl, (blk_cell hh.out 1).trans rfl⟩
theorem d2 {w : World} {g : Nat} {t : TypeId} {a b : Value} (hh : Aside0 (w.heap[g]? = some (.cells #[a, b] t (0, 0)))) : w.cell? ⟨g, 0, none⟩ = some a ∧ w.cell? ⟨g, 1, none⟩ = some b ∧ w.frozen? ⟨g, 0, none⟩ = false ∧ w.frozen? ⟨g, 1, none⟩ = false :=
  ⟨(blk_cell hh.out 0).trans rfl, (blk_cell hh.out 1).trans rfl, blk_frozen hh.out 0, blk_frozen hh.out 1⟩
theorem f2 {w : World} {g : Nat} {t : TypeId} {a b : Value} (hh : Aside0 (w.heap[g]? = some (.cells #[a, b] t (0, 0)))) : w.frozen? ⟨g, 0, none⟩ = false ∧ w.frozen? ⟨g, 1, none⟩ = false :=
  ⟨blk_frozen hh.out 0, blk_frozen hh.out 1⟩
theorem c3 {w : World} {g : Nat} {t : TypeId} {a b c : Value} (hh : Aside0 (w.heap[g]? = some (.cells #[a, b, c] t (0, 0)))) : w.cell? ⟨g, 0, none⟩ = some a ∧ w.cell? ⟨g, 1, none⟩ = some b ∧ w.cell? ⟨g, 2, none⟩ = some c :=
  ⟨(blk_cell hh.out 0).trans rfl, (blk_cell hh.out 1).trans rfl, (blk_cell hh.out 2).trans rfl⟩
theorem d3 {w : World} {g : Nat} {t : TypeId} {a b c : Value} (hh : Aside0 (w.heap[g]? = some (.cells #[a, b, c] t (0, 0)))) : w.cell? ⟨g, 0, none⟩ = some a ∧ w.cell? ⟨g, 1, none⟩ = some b ∧ w.cell? ⟨g, 2, none⟩ = some c ∧ w.frozen? ⟨g, 0, none⟩ = false ∧ w.frozen? ⟨g, 1, none⟩ = false ∧ w.frozen? ⟨g, 2, none⟩ = false :=
  ⟨(blk_cell hh.out 0).trans rfl, (blk_cell hh.out 1).trans rfl, (blk_cell hh.out 2).trans rfl, blk_frozen hh.out 0, blk_frozen hh.out 1, blk_frozen hh.out 2⟩
theorem f3 {w : World} {g : Nat} {t : TypeId} {a b c : Value} (hh : Aside0 (w.heap[g]? = some (.cells #[a, b, c] t (0, 0)))) : w.frozen? ⟨g, 0, none⟩ = false ∧ w.frozen? ⟨g, 1, none⟩ = false ∧ w.frozen? ⟨g, 2, none⟩ = false :=
  ⟨blk_frozen hh.out 0, blk_frozen hh.out 1, blk_frozen hh.out 2⟩
theorem c4 {w : World} {g : Nat} {t : TypeId} {a b c d : Value} (hh : Aside0 (w.heap[g]? = some (.cells #[a, b, c, d] t (0, 0)))) : w.cell? ⟨g, 0, none⟩ = some a ∧ w.cell? ⟨g, 1, none⟩ = some b ∧ w.cell? ⟨g, 2, none⟩ = some c ∧ w.cell? ⟨g, 3, none⟩ = some d :=
  ⟨(blk_cell hh.out 0).trans rfl, (blk_cell hh.out 1).trans rfl, (blk_cell hh.out 2).trans rfl, (blk_cell hh.out 3).trans rfl⟩
theorem d4 {w : World} {g : Nat} {t : TypeId} {a b c d : Value} (hh : Aside0 (w.heap[g]? = some (.cells #[a, b, c, d] t (0, 0)))) : w.cell? ⟨g, 0, none⟩ = some a ∧ w.cell? ⟨g, 1, none⟩ = some b ∧ w.cell? ⟨g, 2, none⟩ = some c ∧ w.cell? ⟨g, 3, none⟩ = some d ∧ w.frozen? ⟨g, 0, none⟩ = false ∧ w.frozen? ⟨g, 1, none⟩ = false ∧ w.frozen? ⟨g, 2, none⟩ = false ∧ w.frozen? ⟨g, 3, none⟩ = false :=
  ⟨(blk_cell hh.out 0).trans rfl, (blk_cell hh.out 1).trans rfl, (blk_cell hh.out 2).trans rfl, (blk_cell hh.out 3).trans rfl, blk_frozen hh.out 0, blk_frozen hh.out 1, blk_frozen hh.out 2, blk_frozen hh.out 3⟩
theorem f4 {w : World} {g : Nat} {t : TypeId} {a b c d : Value} (hh : Aside0 (w.heap[g]? = some (.cells #[a, b, c, d] t (0, 0)))) : w.frozen? ⟨g, 0, none⟩ = false ∧ w.frozen? ⟨g, 1, none⟩ = false ∧ w.frozen? ⟨g, 2, none⟩ = false ∧ w.frozen? ⟨g, 3, none⟩ = false :=
  ⟨blk_frozen hh.out 0, blk_frozen hh.out 1, blk_frozen hh.out 2, blk_frozen hh.out 3⟩
theorem c5 {w : World} {g : Nat} {t : TypeId} {a b c d e : Value} (hh : Aside0 (w.heap[g]? = some (.cells #[a, b, c, d, e] t (0, 0)))) : w.cell? ⟨g, 0, none⟩ = some a ∧ w.cell? ⟨g, 1, none⟩ = some b ∧ w.cell? ⟨g, 2, none⟩ = some c ∧ w.cell? ⟨g, 3, none⟩ = some d ∧ w.cell? ⟨g, 4, none⟩ = some e :=
  ⟨(blk_cell hh.out 0).trans rfl, (blk_cell hh.out 1).trans rfl, (blk_cell hh.out 2).trans rfl, (blk_cell hh.out 3).trans rfl, (blk_cell hh.out 4).trans rfl⟩
theorem d5 {w : World} {g : Nat} {t : TypeId} {a b c d e : Value} (hh : Aside0 (w.heap[g]? = some (.cells #[a, b, c, d, e] t (0, 0)))) : w.cell? ⟨g, 0, none⟩ = some a ∧ w.cell? ⟨g, 1, none⟩ = some b ∧ w.cell? ⟨g, 2, none⟩ = some c ∧ w.cell? ⟨g, 3, none⟩ = some d ∧ w.cell? ⟨g, 4, none⟩ = some e ∧ w.frozen? ⟨g, 0, none⟩ = false ∧ w.frozen? ⟨g, 1, none⟩ = false ∧ w.frozen? ⟨g, 2, none⟩ = false ∧ w.frozen? ⟨g, 3, none⟩ = false ∧ w.frozen? ⟨g, 4, none⟩ = false :=
  ⟨(blk_cell hh.out 0).trans rfl, (blk_cell hh.out 1).trans rfl, (blk_cell hh.out 2).trans rfl, (blk_cell hh.out 3).trans rfl, (blk_cell hh.out 4).trans rfl, blk_frozen hh.out 0, blk_frozen hh.out 1, blk_frozen hh.out 2, blk_frozen hh.out 3, blk_frozen hh.out 4⟩
theorem f5 {w : World} {g : Nat} {t : TypeId} {a b c d e : Value} (hh : Aside0 (w.heap[g]? = some (.cells #[a, b, c, d, e] t (0, 0)))) : w.frozen? ⟨g, 0, none⟩ = false ∧ w.frozen? ⟨g, 1, none⟩ = false ∧ w.frozen? ⟨g, 2, none⟩ = false ∧ w.frozen? ⟨g, 3, none⟩ = false ∧ w.frozen? ⟨g, 4, none⟩ = false :=
  ⟨blk_frozen hh.out 0, blk_frozen hh.out 1, blk_frozen hh.out 2, blk_frozen hh.out 3, blk_frozen hh.out 4⟩
theorem c6 {w : World} {g : Nat} {t : TypeId} {a b c d e f : Value} (hh : Aside0 (w.heap[g]? = some (.cells #[a, b, c, d, e, f] t (0, 0)))) : w.cell? ⟨g, 0, none⟩ = some a ∧ w.cell? ⟨g, 1, none⟩ = some b ∧ w.cell? ⟨g, 2, none⟩ = some c ∧ w.cell? ⟨g, 3, none⟩ = some d ∧ w.cell? ⟨g, 4, none⟩ = some e ∧ w.cell? ⟨g, 5, none⟩ = some f :=
  ⟨(blk_cell hh.out 0).trans rfl, (blk_cell hh.out 1).trans rfl, (blk_cell hh.out 2).trans rfl, (blk_cell hh.out 3).trans rfl, (blk_cell hh.out 4).trans rfl, (blk_cell hh.out 5).trans rfl⟩
theorem f6 {w : World} {g : Nat} {t : TypeId} {a b c d e f : Value} (hh : Aside0 (w.heap[g]? = some (.cells #[a, b, c, d, e, f] t (0, 0)))) : w.frozen? ⟨g, 0, none⟩ = false ∧ w.frozen? ⟨g, 1, none⟩ = false ∧ w.frozen? ⟨g, 2, none⟩ = false ∧ w.frozen? ⟨g, 3, none⟩ = false ∧ w.frozen? ⟨g, 4, none⟩ = false ∧ w.frozen? ⟨g, 5, none⟩ = false :=
  ⟨blk_frozen hh.out 0, blk_frozen hh.out 1, blk_frozen hh.out 2, blk_frozen hh.out 3, blk_frozen hh.out 4, blk_frozen hh.out 5⟩
theorem c7 {w : World} {g : Nat} {t : TypeId} {a b c d e f h : Value} (hh : Aside0 (w.heap[g]? = some (.cells #[a, b, c, d, e, f, h] t (0, 0)))) : w.cell? ⟨g, 0, none⟩ = some a ∧ w.cell? ⟨g, 1, none⟩ = some b ∧ w.cell? ⟨g, 2, none⟩ = some c ∧ w.cell? ⟨g, 3, none⟩ = some d ∧ w.cell? ⟨g, 4, none⟩ = some e ∧ w.cell? ⟨g, 5, none⟩ = some f ∧ w.cell? ⟨g, 6, none⟩ = some h :=
  ⟨(blk_cell hh.out 0).trans rfl, (blk_cell hh.out 1).trans rfl, (blk_cell hh.out 2).trans rfl, (blk_cell hh.out 3).trans rfl, (blk_cell hh.out 4).trans rfl, (blk_cell hh.out 5).trans rfl, (blk_cell hh.out 6).trans rfl⟩
theorem bk {w w1 w2 : World} {g : Nat} {o : Obj} (h : Aside0 (w.heap[g]? = some o)) (hb : Below w1.heap.size w1 w2) (hp : w1.heap[g]? = some o := by
    (with_reducible repeat (first | refine blk_drewN ?_ _ | refine blk_drew ?_ | refine blk_alloc ?_ _))
    exact Aside0.out (by assumption)) : Aside0 (w2.heap[g]? = some o) := ⟨blk_below hp hb⟩
theorem bs {w w2 w3 : World} (hb : Below w2.heap.size w2 w3) (hp : Below w.heap.size w w2 := by
    repeat (first | (with_reducible first | (refine Aside0.out ?_; assumption) | apply below_alloc | apply pw_below_drewN | apply below_drew1 | (refine below_set ?_ (Aside0.out ?_); rotate_left; assumption)) | (refine Aside0.out ?_; assumption))) : Aside0 (Below w.heap.size w w3) := ⟨below_step hp hb⟩
theorem gs {w w2 : World} {g : Nat} (hg : g = w2.heap.size) (hp : Below w.heap.size w w2 := by
    repeat (first | (with_reducible first | (refine Aside0.out ?_; assumption) | apply below_alloc | apply pw_below_drewN | apply below_drew1 | (refine below_set ?_ (Aside0.out ?_); rotate_left; assumption)) | (refine Aside0.out ?_; assumption))) : w.heap.size ≤ g := by rw [hg]; exact below_size hp
theorem cb {α : Type} {d : Kd α} {w w2 : World} {A : Option Addr} {n : Nat} {xs : List α} (h : Aside0 (d.C w A n xs)) (hp : Below w.heap.size w w2 := by
    repeat (first | (with_reducible first | (refine Aside0.out ?_; assumption) | apply below_alloc | apply pw_below_drewN | apply below_drew1 | (refine below_set ?_ (Aside0.out ?_); rotate_left; assumption)) | (refine Aside0.out ?_; assumption))) : d.C w2 A n xs := Kd.C_below h.out hp
theorem sb {α : Type} {d : Kd α} {e base : Nat} {w w1 w2 : World} {ok : Nat → Prop} {v : Value} {xs : List α} (h : Aside0 (Kd.S d e w base ok v xs)) (hb : Below w1.heap.size w1 w2) (hp : Kd.S d e w1 base ok v xs := by
    (with_reducible repeat (first | apply Kd.S_alloc | apply Kd.S_drewN | apply Kd.S_drew))
    exact Aside0.out (by assumption)) : Aside0 (Kd.S d e w2 base ok v xs) := ⟨Kd.S_below hp hb⟩
section
variable {P : Program} {ops : Array Oper} {Q : Exit → Act → World → Prop} {md : Region.Mode} {S : World → Prop} {ds : List Nat} {T : Bool × List (List Nat × List Nat)} {B : List Nat}
theorem rP {oi : Oper} {v : Value} {fuel : Nat} {l : Array Bool} {a a' : Act} {w : World} (i N : Nat) (h : wpAnyLast P md ops Q S ds fuel (l.setIfInBounds i true) a' w)
    (hi : ops[i]? = some oi := by rfl) (hQ : ∀ c a w, Q (.panic c) (a.put oi.dst v) w → Q (.panic c) a w := by exact fun _ _ _ h => h) (hN : oi.dst = some N := by rfl) (hc : anyB md ops l (l.setIfInBounds i true) i = true := by kernel_rfl) (hw : Region.wanted oi (yielded ops a.tmps) = true := by rfl)
    (hr : ∀ w', (execOp a.eval oi).run P w' = .ok (.value v) w' := by intro w'; go_simp; with_reducible rfl) (ha : a.put (some N) v = a' := by simp only [Act.put, Kx.sb, Kx.sz, Kx.ss, i64_w, i32_w]; rfl) : wpAnyLast P md ops Q S ds (fuel + 1) l a w :=
  pure_ (i := i) (N := some N) _ hi hN hc hQ (Or.inl ⟨hw, hr⟩) ha h
theorem rO {oi : Oper} {N : Option Tmp} {fuel : Nat} {l : Array Bool} {a : Act} {w : World} (i : Nat)
    (h : ∀ K : Act → World → Prop, Shut (∀ a' w', S w' → (S w' → wpAnyLast P md ops Q S ds fuel (l.setIfInBounds i true) a' w') → K a' w') → if Region.wanted oi (yielded ops a.tmps) = true then Oper.wp P oi a w K Q else K (a.put N undef) w)
    (hi : ops[i]? = some oi := by rfl) (hN : oi.dst = N := by rfl) (hc : readyB md ops l (l.setIfInBounds i true) i = true := by kernel_rfl) (hd : i ∉ ds := by decide) : wpAnyLast P md ops Q S ds (fuel + 1) l a w :=
  one_ (i := i) _ hi hN hc hd h
theorem bx {rest : List Oper} {oi : Oper} {a : Act} {w : World} {N : Tmp} (cs : Array Value) (t : TypeId)
    (h : ∀ g, g = w.heap.size → ∀ w1, w1.heap[g]? = some (.cells cs t (0, 0)) → Below w.heap.size w w1 → wpList P ops Q rest (a.put oi.dst (.pointer (some ⟨g, 0, none⟩))) w1)
    (hd : oi.dst = some N := by rfl) (hg : oi.guard = none := by rfl) (hr : (execOp a.eval oi).run P w = .ok (.value (.pointer (some ⟨w.heap.size, 0, none⟩))) (w.alloc (.cells cs t (0, 0))) := by first | (go_simp; done) | (go_simp; rfl)) : wpList P ops Q (oi :: rest) a w :=
  box_event hg hd hr h
end
end Go.Proofs.Ytmgohkffphogdaa.Cz
