/- Functions of the program as Lean functions, and that the Go code comes to just their answers: no condition but that the function says so. (Written by a program of this workplace over the kit's print, with contracts by hand.) -/
import Derived.Test.YtcemlfkboifncaaPLx14
import Derived.Test.YtcemlfkboifncaaPLx34
namespace Go.Proofs.Ytcemlfkboifncaa.PL
open Go.RowKit Go.Proofs.YtcemlfkboifncaaW.PrintWords Go.Proofs.YtcemlfkboifncaaW.PrintLast Go.Proofs.YtcemlfkboifncaaW.PrintMore
attribute [local go_sem] max2_int min2_int max_two min_two max_three min_three max_four min_four   -- for this text's walks alone
set_option linter.unusedVariables false
set_option linter.unusedSimpArgs false

/-! ### waggonerlaw07_awake: function 32 -/
def waggonerlaw07_awake.f : Option Bool := some true
theorem waggonerlaw07_awake.tells : waggonerlaw07_awake_p.f = some true := by kernel_rfl
theorem waggonerlaw07_awake.calls (r : Bool) (w : World) (h : waggonerlaw07_awake.f = some r) :
  Calls Try.prog 32 #[] w fun e w' => e = .returned (.bool r) ∧ Below w.heap.size w w' := by
 unfold waggonerlaw07_awake.f at h
 obtain rfl := Option.some.inj h
 exact waggonerlaw07_awake_p.calls true rfl w waggonerlaw07_awake.tells
end Go.Proofs.Ytcemlfkboifncaa.PL
