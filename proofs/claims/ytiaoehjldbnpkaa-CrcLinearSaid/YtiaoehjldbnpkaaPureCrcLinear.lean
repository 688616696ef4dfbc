/- For every three texts the law's answer is true. -/
import Derived.Test.YtiaoehjldbnpkaaPAx19
namespace Go.Proofs.Ytiaoehjldbnpkaa.Pure
open Go.RowKit Go.Proofs.Ytiaoehjldbnpkaa.PA Go.Proofs.YtiaoehjldbnpkaaW.PrintWords Go.Proofs.YtiaoehjldbnpkaaW.PrintLast
set_option linter.unusedVariables false
theorem CrcLinear : waggonerlaw02_CrcLinear.Pure := by
  intro l0 l1 l2 _ _ w0 _ _ w1 _ _ w2
  exact if_pos ⟨Pl.wf_u8 w0, Pl.wf_u8 w1, Pl.wf_u8 w2⟩
end Go.Proofs.Ytiaoehjldbnpkaa.Pure
