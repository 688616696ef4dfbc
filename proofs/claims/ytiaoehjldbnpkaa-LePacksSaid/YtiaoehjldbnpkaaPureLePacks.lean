/- For any form, numbers and bytes the law's answer is true: both texts pack and unpack what the closed form says. -/
import Derived.Test.YtiaoehjldbnpkaaPPx29
import Derived.Test.YtiaoehjldbnpkaaPackP
import Derived.Test.YtiaoehjldbnpkaaStr
namespace Go.Proofs.Ytiaoehjldbnpkaa.Pure
open Go.RowKit Go.Proofs.Ytiaoehjldbnpkaa.PP Go.Proofs.YtiaoehjldbnpkaaW.PrintWords Go.Proofs.YtiaoehjldbnpkaaW.PrintLast
set_option linter.unusedVariables false

theorem LePacks : waggonerlaw01_LePacks.Pure := by
  intro a0 l1 l2 ws _ _ w1 _ y2 w2
  have hu : Pl.u64B l1 = true := Pl.u64B_iff.2 fun x hx => Pl.wf_u64 (w1 x hx)
  have hb := Pl.wf_u8 w2
  refine ⟨1, ?_⟩
  unfold waggonerlaw01_LePacks.f waggonerlaw01_awake.f
  rw [Option.bind_some]
  have out : waggonerlaw01_LePacks.j0 1 a0 l1 l2 true true = some true := by
    simp only [waggonerlaw01_LePacks.j0]
    rw [if_pos trivial]
  by_cases c0 : (a0.size : Int) > 60
  · rw [if_pos c0]; exact out
  rw [if_neg c0]
  by_cases c1 : (l1.length : Int) > 60
  · rw [if_pos c1]; exact out
  rw [if_neg c1]
  by_cases c2 : (l2.length : Int) > 300
  · rw [decide_eq_true c2]; exact out
  rw [decide_eq_false c2]
  have hs : a0.size < 2147483648 := by omega
  have hl : l2.length < 70368744177664 := by omega
  have hq : (Pl.unpackS (Pl.fb a0) l2).1.length < 4611686018427387904 := by
    have := Pl.unpackS_length (Pl.fb a0) l2
    rw [Pl.fb_length] at this
    omega
  simp only [waggonerlaw01_LePacks.j0]
  rw [if_neg (by decide), show le_Pack.f a0 l1 = some (Pl.packS (Pl.fb a0) l1) from by unfold le_Pack.f; rw [if_pos ⟨hu, hs⟩], Option.bind_some,
    show waggonerref01_Pack.f a0 l1 = some (Pl.packS (Pl.fb a0) l1) from by unfold waggonerref01_Pack.f; rw [if_pos ⟨hu, hs⟩], Option.bind_some,
    show le_Unpack.f a0 l2 = some (Pl.unpackS (Pl.fb a0) l2) from by unfold le_Unpack.f; rw [if_pos ⟨hb, hl, hs⟩], Option.bind_some,
    show waggonerref01_Unpack.f a0 l2 = some (Pl.unpackS (Pl.fb a0) l2) from by unfold waggonerref01_Unpack.f; rw [if_pos ⟨hb, hl, hs⟩], Option.bind_some]
  rw [if_pos trivial, if_pos rfl, if_pos rfl, show waggonerref01_Same.f (Pl.unpackS (Pl.fb a0) l2).1 (Pl.unpackS (Pl.fb a0) l2).1 = some true from by unfold waggonerref01_Same.f; rw [if_pos hq]; simp, Option.bind_some, if_pos rfl]
  simp
end Go.Proofs.Ytiaoehjldbnpkaa.Pure
