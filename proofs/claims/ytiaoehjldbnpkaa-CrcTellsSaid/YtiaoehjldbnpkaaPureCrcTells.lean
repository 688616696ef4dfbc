/- For every sum, text, other sum and number the law's answer is true. -/
import Derived.Test.YtiaoehjldbnpkaaPTx28
namespace Go.Proofs.Ytiaoehjldbnpkaa.Pure
open Go.RowKit Go.Proofs.Ytiaoehjldbnpkaa.PT
set_option linter.unusedVariables false
theorem CrcTells : waggonerlaw02_CrcTells.Pure := by
  intro a0 l1 a2 a3 w0 _ _ w1 w2 w3
  obtain ⟨h1, h2⟩ := Pl.wf_u32 w0
  obtain ⟨h3, h4⟩ := Pl.wf_u32 w2
  exact if_pos ⟨Pl.wf_u8 w1, h1, h2, h3, h4⟩
end Go.Proofs.Ytiaoehjldbnpkaa.Pure
