/- The law's answer is true: the document's numbers are the program's. -/
import Derived.Test.YtohkmmbmfhficaaPNx47
namespace Go.Proofs.Ytohkmmbmfhficaa.Pure
open Go.RowKit Go.Proofs.Ytohkmmbmfhficaa.PN Go.Proofs.YtohkmmbmfhficaaW.PrintWords Go.Proofs.YtohkmmbmfhficaaW.PrintLast
set_option linter.unusedVariables false
theorem FrameNames : waggonerlaw16_FrameNames.Pure := by
  unfold waggonerlaw16_FrameNames.Pure waggonerlaw16_FrameNames.f waggonerlaw16_awake.f
  rfl
end Go.Proofs.Ytohkmmbmfhficaa.Pure
