/- For every text, place and byte the law's answer is true. -/
import Derived.Test.YtiaoehjldbnpkaaPAx21
namespace Go.Proofs.Ytiaoehjldbnpkaa.Pure
open Go.RowKit Go.Proofs.Ytiaoehjldbnpkaa.PA Go.Proofs.YtiaoehjldbnpkaaW.PrintWords Go.Proofs.YtiaoehjldbnpkaaW.PrintLast
set_option linter.unusedVariables false
theorem CrcNone : waggonerlaw02_CrcNone.Pure := by
  intro l0 a1 a2 _ _ w0 w1 w2
  obtain ⟨h1, h2⟩ := Pl.wf_u16 w1
  obtain ⟨h3, h4⟩ := Pl.wf_byte w2
  exact if_pos ⟨Pl.wf_u8 w0, h1, h2, h3, h4⟩
end Go.Proofs.Ytiaoehjldbnpkaa.Pure
