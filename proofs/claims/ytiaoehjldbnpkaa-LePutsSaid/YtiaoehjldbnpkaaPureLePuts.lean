/- For any bytes, number and size the law's answer is true: both texts put and take what the closed form says. -/
import Derived.Test.YtiaoehjldbnpkaaPBx25
import Derived.Test.YtiaoehjldbnpkaaStr
namespace Go.Proofs.Ytiaoehjldbnpkaa.Pure
open Go.RowKit Go.Proofs.Ytiaoehjldbnpkaa.PB Go.Proofs.YtiaoehjldbnpkaaW.PrintWords Go.Proofs.YtiaoehjldbnpkaaW.PrintLast
set_option linter.unusedVariables false

theorem LePuts : waggonerlaw01_LePuts.Pure := by
  intro l0 a1 a2 _ y0 w0 w1 w2
  have hb := Pl.wf_u8 w0
  obtain ⟨h0, h1⟩ := Pl.wf_u64 w1
  unfold waggonerlaw01_LePuts.f waggonerlaw01_awake.f
  rw [Option.bind_some]
  by_cases c : (l0.length : Int) > 300
  · rw [if_pos c]
  · have hl : l0.length < 70368744177664 := by omega
    rw [if_neg c, show le_Put.f l0 a1 a2 = some (Pl.putS l0 a1 a2) from by unfold le_Put.f; rw [if_pos ⟨h0, h1, hl⟩], Option.bind_some,
      show waggonerref01_Put.f l0 a1 a2 = some (Pl.putS l0 a1 a2) from by unfold waggonerref01_Put.f; rw [if_pos ⟨h0, h1, hl⟩], Option.bind_some,
      show le_Take.f l0 a2 = some (Pl.takeS l0 a2) from by unfold le_Take.f; rw [if_pos ⟨hb, hl⟩], Option.bind_some,
      show waggonerref01_Take.f l0 a2 = some (Pl.takeS l0 a2) from by unfold waggonerref01_Take.f; rw [if_pos ⟨hb, hl⟩], Option.bind_some]
    rw [if_pos rfl, if_pos rfl, if_pos rfl, if_pos rfl, if_pos rfl]
    simp
end Go.Proofs.Ytiaoehjldbnpkaa.Pure
