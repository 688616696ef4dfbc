/- The law's answer is true: the document's numbers are the program's. -/
import Derived.Test.YtcemlfkboifncaaPEx36
namespace Go.Proofs.Ytcemlfkboifncaa.Pure
open Go.RowKit Go.Proofs.Ytcemlfkboifncaa.PE Go.Proofs.YtcemlfkboifncaaW.PrintWords Go.Proofs.YtcemlfkboifncaaW.PrintLast
set_option linter.unusedVariables false
theorem ExtentNames : waggonerlaw07_ExtentNames.Pure := by
  unfold waggonerlaw07_ExtentNames.Pure waggonerlaw07_ExtentNames.f waggonerlaw07_awake.f
  rfl
end Go.Proofs.Ytcemlfkboifncaa.Pure
