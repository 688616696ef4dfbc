/- Words and walks that this claim names, of those that the kit's print and programs of this workplace have printed. -/
import Derived.Test.YtcemlfkboifncaaZAWLast
namespace Go.Proofs.YtcemlfkboifncaaW.PrintLast
variable {P : Program} {ops : Array Oper} {Q : Exit → Act → World → Prop} {md : Region.Mode} {S : World → Prop}
theorem stronger {E : World → Prop} : ∀ (fuel : Nat) (l : Array Bool) (a : Act) (w : World), S w → E w → wpAnyLast P md ops Q (fun w' => S w' ∧ E w') [] fuel l a w → wpAnyLast P md ops Q S [] fuel l a w
  | 0, _, _, _, _, _, h => h
  | fuel + 1, l, _, _, hS, hE, h => ⟨h.1, fun i hi => wpOp_mono (fun a' w' h' => ⟨fun _ _ => (h'.1 (by simp) ⟨hS, hE⟩).1, stronger fuel _ a' w' (h'.1 (by simp) ⟨hS, hE⟩).1 (h'.1 (by simp) ⟨hS, hE⟩).2 h'.2⟩) (h.2 i hi)⟩
theorem stronger_ {fuel : Nat} {l : Array Bool} {a : Act} {w : World} (E : World → Prop) (hS : S w) (hE : E w) (h : (S w ∧ E w) → wpAnyLast P md ops Q (fun w' => S w' ∧ E w') [] fuel l a w) : wpAnyLast P md ops Q S [] fuel l a w :=
  stronger fuel l a w hS hE (h ⟨hS, hE⟩)
end Go.Proofs.YtcemlfkboifncaaW.PrintLast
