/- Words and walks that this claim names, of those that the kit's print and programs of this workplace have printed. -/
import Derived.Test.YtohkmmbmfhficaaZGPGx11
import Derived.Test.YtohkmmbmfhficaaZGPGx45
namespace Go.Proofs.Ytohkmmbmfhficaa.PG
open Go.RowKit Go.Proofs.YtohkmmbmfhficaaW.PrintWords Go.Proofs.YtohkmmbmfhficaaW.PrintLast Go.Proofs.YtohkmmbmfhficaaW.PrintMore
attribute [local go_sem] max2_int min2_int max_two min_two max_three min_three max_four min_four
set_option linter.unusedVariables false
set_option linter.unusedSimpArgs false
def waggonerlaw16_awake.f : Option Bool := some true
theorem waggonerlaw16_awake.tells : waggonerlaw16_awake_p.f = some true := by kernel_rfl
theorem waggonerlaw16_awake.calls (r : Bool) (w : World) (h : waggonerlaw16_awake.f = some r) :
  Calls Try.prog 18 #[] w fun e w' => e = .returned (.bool r) ∧ Below w.heap.size w w' := by
 unfold waggonerlaw16_awake.f at h
 obtain rfl := Option.some.inj h
 exact waggonerlaw16_awake_p.calls true rfl w waggonerlaw16_awake.tells
end Go.Proofs.Ytohkmmbmfhficaa.PG
