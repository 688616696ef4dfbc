/- Words and walks that this claim names, of those that the kit's print and programs of this workplace have printed. -/
import Derived.ScopeJumps
import Derived.Control
set_option linter.unusedVariables false
namespace Go.Proofs.Ytohkmmbmfhficaa.Kx
open Go
theorem least_of {p : Nat → Prop} : ∀ n, p n → ∃ m, p m ∧ ∀ k, p k → m ≤ k := by
  intro n
  induction n using Nat.strongRecOn with
  | _ n ih =>
    intro hn
    by_cases h : ∃ k, k < n ∧ p k
    ·obtain ⟨k, hk, hp⟩ := h
     exact ih k hk hp
    exact ⟨n, hn, fun k hk => Nat.le_of_not_lt fun hlt => h ⟨k, hlt, hk⟩⟩
noncomputable def least (p : Nat → Prop) : Nat := by classical exact if h : ∃ n, p n then Classical.choose (least_of _ (Classical.choose_spec h)) else 0
theorem least_holds {p : Nat → Prop} {n : Nat} (h : p n) : p (least p) := by
  have hh : ∃ n, p n := ⟨n, h⟩
  unfold least
  rw [dif_pos hh]
  exact (Classical.choose_spec (least_of _ (Classical.choose_spec hh))).1
theorem least_le {p : Nat → Prop} {n : Nat} (h : p n) : least p ≤ n := by
  have hh : ∃ n, p n := ⟨n, h⟩
  unfold least
  rw [dif_pos hh]
  exact (Classical.choose_spec (least_of _ (Classical.choose_spec hh))).2 n h
theorem jump_mono {l : Nat} {J J' : Act → World → Prop} {Q : Exit → Act → World → Prop} (h : ∀ a w, J a w → J' a w) : ∀ e a w, Exit.jump l J Q e a w → Exit.jump l J' Q e a w := by
  intro e a w hj
  cases e <;> first | exact hj | exact ⟨hj.1, h _ _ hj.2⟩
theorem skip_seq {P : Program} {a : Act} {w : World} {Q : Exit → Act → World → Prop} {c : Code} (h : c.wp P Q a w) : (Code.seq Code.skip c).wp P Q a w := wp_seq (wp_skip h)
theorem scope_ghost {P : Program} {a : Act} {w : World} {Q : Exit → Act → World → Prop} {c body : Code} (l : Nat) (J : Nat → Act → World → Prop) (hf : findLabel c l = some (Code.seq Code.skip body))
    (pass : ∀ n a w, J n a w → body.wp P (Exit.jump l (fun a' w' => ∃ m, m < n ∧ J m a' w') Q) a w)
    (first : (∀ n a w, J n a w → body.wp P (Exit.jump l (fun a' w' => ∃ n, J n a' w') Q) a w) → c.wp P (Exit.jump l (fun a' w' => ∃ n, J n a' w') Q) a w) : (Code.scope c).wp P Q a w :=
  wp_scope_jumps l (fun a w => ∃ n, J n a w) (fun a w => least fun n => J n a w) hf
    (first fun n a w hn => wp_mono (pass n a w hn) (jump_mono fun a' w' hj => ⟨hj.choose, hj.choose_spec.2⟩))
    (fun a w hJ => by
      obtain ⟨n, hn⟩ := hJ
      refine skip_seq (wp_mono (pass _ a w (least_holds (p := fun n => J n a w) hn)) (jump_mono fun a' w' hj => ?_))
      obtain ⟨m, hm, hj⟩ := hj
      exact ⟨⟨m, hj⟩, Nat.lt_of_le_of_lt (least_le (p := fun n => J n a' w') hj) hm⟩)
end Go.Proofs.Ytohkmmbmfhficaa.Kx
