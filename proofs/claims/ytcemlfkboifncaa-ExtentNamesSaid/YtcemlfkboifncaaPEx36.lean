/- Functions of the program as Lean functions, and that the Go code comes to just their answers: no condition but that the function says so. (Written by a program of this workplace over the kit's print, with contracts by hand.) -/
import Derived.Test.YtcemlfkboifncaaPEx14
import Derived.Test.YtcemlfkboifncaaPEx34
namespace Go.Proofs.Ytcemlfkboifncaa.PE
open Go.RowKit Go.Proofs.YtcemlfkboifncaaW.PrintWords Go.Proofs.YtcemlfkboifncaaW.PrintLast Go.Proofs.YtcemlfkboifncaaW.PrintMore
attribute [local go_sem] max2_int min2_int max_two min_two max_three min_three max_four min_four   -- for this text's walks alone
set_option linter.unusedVariables false
set_option linter.unusedSimpArgs false

/-! ### waggonerlaw07_awake: function 32 -/
def waggonerlaw07_awake.f : Option Bool := some true
theorem waggonerlaw07_awake.tells : waggonerlaw07_awake_p.f = some true := by kernel_rfl
theorem waggonerlaw07_awake.calls (r : Bool) (w : World) (h : waggonerlaw07_awake.f = some r) :
  Calls Try.prog 32 #[] w fun e w' => e = .returned (.bool r) ∧ Below w.heap.size w w' := by
 unfold waggonerlaw07_awake.f at h
 obtain rfl := Option.some.inj h
 exact waggonerlaw07_awake_p.calls true rfl w waggonerlaw07_awake.tells
/-! ### waggonerlaw07_ExtentNames: function 9 -/
def waggonerlaw07_ExtentNames.f  : Option (Bool) := (waggonerlaw07_awake.f).bind fun t234 => (if t234 = true then (some true) else (some false))
set_option maxHeartbeats 8000000 in
set_option maxRecDepth 100000 in
theorem waggonerlaw07_ExtentNames.calls  (r : Bool) (hT : r = true) (w : World) (h : waggonerlaw07_ExtentNames.f  = some r) :
  Calls Try.prog 9 #[] w fun e w' => e = .returned (.bool r) ∧ Below w.heap.size w w' := by
 subst hT
 have HB := Aside0.mk (Below.refl w.heap.size w)
 have H : ((waggonerlaw07_awake.f).bind fun t234 => (if t234 = true then (some true) else (some false))) = some true := h
 clear h
 replace H := Option.bind_eq_some_iff.mp H
 obtain ⟨t234, A10, H⟩ := H
 replace H : (if t234 = true then (some true) else (some false)) = some true := H
 have A1 := Aside0.mk A10
 clear A10
 by_cases c2 : t234 = true
 ·subst c2
  have H1 : (some true) = some true := by rw [if_pos rfl] at H <;> exact H
  clear H
  have H := H1
  clear H1
  (have HRT := Aside0.mk (Option.some.inj H); clear H)
  go_enter Try.func9, Try.ntmps9
  go_wp2_with (first | ((with_reducible refine gate_callee (f := 32) rfl ?_); refine goesL_ (some 2) rfl rfl Try.func32 (by kernel_rfl) rfl #[] rfl (by (try simp only [List.map_toArray, List.map_cons, List.map_nil]); first | done | rfl | (simp only [List.length_drop, List.length_take]; rfl)) ?_; (with_reducible refine (waggonerlaw07_awake.calls  true _ A1.out).mono ?_); rintro e w3 ⟨rfl, hb⟩; refine ⟨_, rfl, ?_⟩; have n0_ := Aside0.mk (below_step (by repeat (first | (with_reducible first | exact HB.out | apply below_alloc | apply pw_below_drewN | apply below_drew1) | exact HB.out)) hb); clear HB; have HB := n0_; clear n0_; (try clear hb); (try clear hb2); (try clear hk); (try clear hi)))
  go_ret
  exact ⟨by first | rfl | (exact congrArg (fun z_ => Ending.returned (Value.bool z_)) HRT.out) | (rw [HRT.out]; done) | (simp [errW_none, errW_some] <;> rfl) | (simp [*, errW_none, errW_some] <;> rfl), by repeat (first | (with_reducible first | exact HB.out | apply below_alloc | apply pw_below_drewN | apply below_drew1) | exact HB.out)⟩
 ·replace c2 := Bool.eq_false_iff.mpr c2
  subst c2
  have H1 : (some false) = some true := by rw [if_neg (show ¬ (false = true) by decide)] at H <;> exact H
  exact absurd H1 (by simp)

/-- THE ONE PURE STATEMENT of waggonerlaw07_ExtentNames: yours. -/
def waggonerlaw07_ExtentNames.Pure : Prop := waggonerlaw07_ExtentNames.f  = some true
theorem waggonerlaw07_ExtentNames.walk (P : waggonerlaw07_ExtentNames.Pure)  (w : World)  :
  Calls Try.prog 9 #[] w fun e w' => e = .returned (.bool true) ∧ Below w.heap.size w w' := by
 have h := P  
 refine (waggonerlaw07_ExtentNames.calls  true rfl w h).mono ?_
 rintro e w' ⟨rfl, hd⟩
 exact ⟨rfl, hd⟩
end Go.Proofs.Ytcemlfkboifncaa.PE
