/- The law's answer is true: the document's numbers are the program's. -/
import Derived.Test.YtmgohkffphogdaaPNx43
namespace Go.Proofs.Ytmgohkffphogdaa.Pure
open Go.RowKit Go.Proofs.Ytmgohkffphogdaa.PN Go.Proofs.YtmgohkffphogdaaW.PrintWords Go.Proofs.YtmgohkffphogdaaW.PrintLast
set_option linter.unusedVariables false
theorem ChangeNames : waggonerlaw10_ChangeNames.Pure := by
  unfold waggonerlaw10_ChangeNames.Pure waggonerlaw10_ChangeNames.f waggonerlaw10_awake.f
  rfl
end Go.Proofs.Ytmgohkffphogdaa.Pure
