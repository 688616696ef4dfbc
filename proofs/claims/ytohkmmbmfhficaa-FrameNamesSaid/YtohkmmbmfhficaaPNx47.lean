/- Functions of the program as Lean functions, and that the Go code comes to just their answers: no condition but that the function says so. (Written by a program of this workplace over the kit's print, with contracts by hand.) -/
import Derived.Test.YtohkmmbmfhficaaCz
import Derived.Test.YtohkmmbmfhficaaPNx11
import Derived.Test.YtohkmmbmfhficaaPNx45
namespace Go.Proofs.Ytohkmmbmfhficaa.PN
open Go.Proofs.Ytohkmmbmfhficaa Go.RowKit Go.Proofs.YtohkmmbmfhficaaW.PrintWords Go.Proofs.YtohkmmbmfhficaaW.PrintLast Go.Proofs.YtohkmmbmfhficaaW.PrintMore
attribute [local go_sem] max2_int min2_int max_two min_two max_three min_three max_four min_four   -- for this text's walks alone
set_option linter.unusedVariables false
set_option linter.unusedSimpArgs false

/-! ### waggonerlaw16_awake: function 18 -/
def waggonerlaw16_awake.f : Option Bool := some true
theorem waggonerlaw16_awake.tells : waggonerlaw16_awake_p.f = some true := by kernel_rfl
theorem waggonerlaw16_awake.calls (r : Bool) (w : World) (h : waggonerlaw16_awake.f = some r) :
  Calls Try.prog 18 #[] w fun e w' => e = .returned (.bool r) ∧ Below w.heap.size w w' := by
 unfold waggonerlaw16_awake.f at h
 obtain rfl := Option.some.inj h
 exact waggonerlaw16_awake_p.calls true rfl w waggonerlaw16_awake.tells
/-! ### waggonerlaw16_FrameNames: function 5 -/
def waggonerlaw16_FrameNames.f  : Option (Bool) := (waggonerlaw16_awake.f).bind fun t266 => (if t266 = true then (some true) else (some false))
set_option maxHeartbeats 8000000 in
set_option maxRecDepth 100000 in
theorem waggonerlaw16_FrameNames.calls  (r : Bool) (hT : r = true) (w : World) (h : waggonerlaw16_FrameNames.f  = some r) :
  Calls Try.prog 5 #[] w fun e w' => e = .returned (.bool r) ∧ Below w.heap.size w w' := by
 subst hT
 have HB := Aside0.mk (Below.refl w.heap.size w)
 have H : ((waggonerlaw16_awake.f).bind fun t266 => (if t266 = true then (some true) else (some false))) = some true := h
 clear h
 replace H := Option.bind_eq_some_iff.mp H
 obtain ⟨t266, A10, H⟩ := H
 (try dsimp only at H)
 have A1 := Aside0.mk A10
 clear A10
 by_cases c2 : t266 = true
 ·subst c2
  rw [if_pos rfl] at H
  (have HRT := Aside0.mk (Option.some.inj H); clear H)
  go_enter Try.func5, Try.ntmps5
  go_wp2_with (first | ((with_reducible refine gate_callee (f := 18) rfl ?_); refine Cz.gL (N := (some 2)) Try.func18 #[] ?_; (with_reducible refine (waggonerlaw16_awake.calls  true _ A1.out).mono ?_); rintro e w3 ⟨rfl, hb⟩; refine ⟨_, rfl, ?_⟩; have n0_ := Cz.bs (w := w) hb; clear HB; have HB := n0_; clear n0_; (try clear hb); (try clear hb2); (try clear hk); (try clear hi)))
  go_ret
  exact ⟨by first | rfl | (exact congrArg (fun z_ => Ending.returned (Value.bool z_)) HRT.out) | (rw [HRT.out]; done) | (simp [errW_none, errW_some] <;> rfl) | (simp [*, errW_none, errW_some] <;> rfl), by repeat (first | (with_reducible first | exact HB.out | apply below_alloc | apply pw_below_drewN | apply below_drew1) | exact HB.out)⟩
 ·replace c2 := Bool.eq_false_iff.mpr c2
  subst c2
  have H1 : (some false) = some true := by rw [if_neg (show ¬ (false = true) by decide)] at H <;> exact H
  exact absurd H1 (by simp)

/-- THE ONE PURE STATEMENT of waggonerlaw16_FrameNames: yours. -/
def waggonerlaw16_FrameNames.Pure : Prop := waggonerlaw16_FrameNames.f  = some true
theorem waggonerlaw16_FrameNames.walk (P : waggonerlaw16_FrameNames.Pure)  (w : World)  :
  Calls Try.prog 5 #[] w fun e w' => e = .returned (.bool true) ∧ Below w.heap.size w w' := by
 have h := P  
 refine (waggonerlaw16_FrameNames.calls  true rfl w h).mono ?_
 rintro e w' ⟨rfl, hd⟩
 exact ⟨rfl, hd⟩
end Go.Proofs.Ytohkmmbmfhficaa.PN
