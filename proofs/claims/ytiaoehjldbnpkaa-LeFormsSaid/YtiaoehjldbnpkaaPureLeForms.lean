/- For any two forms and numbers the law's answer is true: a form of two is the one behind the other. -/
import Derived.Test.YtiaoehjldbnpkaaPBx22
import Derived.Test.YtiaoehjldbnpkaaPackP
import Derived.Test.YtiaoehjldbnpkaaStr
namespace Go.Proofs.Ytiaoehjldbnpkaa.Pure
open Go.RowKit Go.Proofs.Ytiaoehjldbnpkaa.PB Go.Proofs.YtiaoehjldbnpkaaW.PrintWords Go.Proofs.YtiaoehjldbnpkaaW.PrintLast
set_option linter.unusedVariables false

theorem LeForms : waggonerlaw01_LeForms.Pure := by
  intro a0 l1 a2 l3 ws0 _ _ w1 ws2 _ _ w3
  have hu1 : Pl.u64B l1 = true := Pl.u64B_iff.2 fun x hx => Pl.wf_u64 (w1 x hx)
  have hu3 : Pl.u64B l3 = true := Pl.u64B_iff.2 fun x hx => Pl.wf_u64 (w3 x hx)
  have hu : Pl.u64B (l1 ++ l3) = true := Pl.u64B_iff.2 fun x hx => (List.mem_append.1 hx).elim (Pl.u64B_iff.1 hu1 x) (Pl.u64B_iff.1 hu3 x)
  refine ⟨2, ?_⟩
  unfold waggonerlaw01_LeForms.f waggonerlaw01_awake.f
  rw [Option.bind_some]
  have out : waggonerlaw01_LeForms.j0 2 a0 l1 a2 l3 true true = some true := by
    simp only [waggonerlaw01_LeForms.j0]
    rw [if_pos trivial]
  by_cases c0 : (a0.size : Int) > 60
  · rw [if_pos c0]; exact out
  rw [if_neg c0]
  by_cases c2 : (a2.size : Int) > 60
  · rw [if_pos c2]; exact out
  rw [if_neg c2]
  by_cases c1 : (l1.length : Int) > 60
  · rw [if_pos c1]; exact out
  rw [if_neg c1]
  by_cases c3 : (l3.length : Int) > 60
  · rw [decide_eq_true c3]; exact out
  rw [decide_eq_false c3]
  have hs0 : a0.size < 2147483648 := by omega
  have hs2 : a2.size < 2147483648 := by omega
  have hz : (a0 ++ a2).size = a0.size + a2.size := ByteArray.size_append
  have hs : (a0 ++ a2).size < 2147483648 := by omega
  simp only [waggonerlaw01_LeForms.j0]
  rw [if_neg (by decide), show le_Pack.f a0 l1 = some (Pl.packS (Pl.fb a0) l1) from by unfold le_Pack.f; rw [if_pos ⟨hu1, hs0⟩], Option.bind_some,
    show le_Pack.f a2 l3 = some (Pl.packS (Pl.fb a2) l3) from by unfold le_Pack.f; rw [if_pos ⟨hu3, hs2⟩], Option.bind_some, if_pos (by omega), Option.bind_some, if_pos (by rw [List.length_nil]; omega), Option.bind_some, List.nil_append, if_pos (by omega),
    show le_Pack.f (a0 ++ a2) (l1 ++ l3) = some (Pl.packS (Pl.fb a0 ++ Pl.fb a2) (l1 ++ l3)) from by unfold le_Pack.f; rw [if_pos ⟨hu, hs⟩, Pl.fb_append], Option.bind_some]
  have no : ∀ x y z E, waggonerlaw01_LeForms.j1 1 a0 l1 a2 l3 true x y z E true = some true := fun x y z E => by
    simp only [waggonerlaw01_LeForms.j1]
    rw [if_pos trivial]
  cases hp : Pl.packP (Pl.fb a0) l1 with
  | none => rw [Pl.packS_none hp, if_neg (by decide)]; exact no _ _ _ _
  | some p =>
    rw [Pl.packS_some hp, if_pos rfl]
    cases hq : Pl.packP (Pl.fb a2) l3 with
    | none => rw [Pl.packS_none hq]; exact no _ _ _ _
    | some q =>
      have hpq := Pl.packP_append hp hq
      have hun := Pl.unpack_pack [] hu hpq
      rw [List.append_nil] at hun
      have h8 := Pl.formL_le (Pl.fb a0 ++ Pl.fb a2)
      have hpl := Pl.packP_size hpq
      rw [List.length_append, Pl.fb_length, Pl.fb_length] at h8
      have hpl' := hpl
      rw [List.length_append] at hpl'
      rw [Pl.packS_some hq, Pl.packS_some hpq, show ((0 : Int) != 0) = false from by decide]
      simp only [waggonerlaw01_LeForms.j1]
      rw [if_neg (by decide), if_pos (by omega), show le_Unpack.f (a0 ++ a2) (p ++ q) = some (l1 ++ l3, 0) from by unfold le_Unpack.f; rw [if_pos ⟨Pl.packP_byte hpq, by omega, hs⟩, Pl.fb_append, Pl.unpackS_some hun], Option.bind_some]
      rw [if_pos trivial, if_pos trivial, if_pos (by omega), if_pos rfl, if_pos trivial, Option.bind_some, if_pos (by rw [List.length_nil]; omega), Option.bind_some, List.nil_append, if_pos (by omega),
        show waggonerref01_Same.f (l1 ++ l3) (l1 ++ l3) = some true from by unfold waggonerref01_Same.f; rw [if_pos (by rw [List.length_append]; omega)]; simp, Option.bind_some]
end Go.Proofs.Ytiaoehjldbnpkaa.Pure
