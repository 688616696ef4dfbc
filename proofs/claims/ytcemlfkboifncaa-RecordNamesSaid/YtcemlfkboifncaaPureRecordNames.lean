/- The law's answer is true: the document's numbers are the program's. -/
import Derived.Test.YtcemlfkboifncaaPNx35
namespace Go.Proofs.Ytcemlfkboifncaa.Pure
open Go.RowKit Go.Proofs.Ytcemlfkboifncaa.PN Go.Proofs.YtcemlfkboifncaaW.PrintWords Go.Proofs.YtcemlfkboifncaaW.PrintLast
set_option linter.unusedVariables false
theorem RecordNames : waggonerlaw05_RecordNames.Pure := by
  unfold waggonerlaw05_RecordNames.Pure waggonerlaw05_RecordNames.f waggonerlaw05_awake.f
  rfl
end Go.Proofs.Ytcemlfkboifncaa.Pure
