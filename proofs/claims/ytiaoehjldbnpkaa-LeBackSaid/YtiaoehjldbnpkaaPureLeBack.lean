/- For any form, numbers and bytes the law's answer is true: numbers are read as they were written, whatever stands ahead, and behind. -/
import Derived.Test.YtiaoehjldbnpkaaPBx21
import Derived.Test.YtiaoehjldbnpkaaPackP
import Derived.Test.YtiaoehjldbnpkaaStr
namespace Go.Proofs.Ytiaoehjldbnpkaa.Pure
open Go.RowKit Go.Proofs.Ytiaoehjldbnpkaa.PB Go.Proofs.YtiaoehjldbnpkaaW.PrintWords Go.Proofs.YtiaoehjldbnpkaaW.PrintLast
set_option linter.unusedVariables false

theorem LeBack : waggonerlaw01_LeBack.Pure := by
  intro a0 l1 l2 a3 l4 ws _ _ w1 _ y2 w2 w3 _ y4 w4
  have hu : Pl.u64B l1 = true := Pl.u64B_iff.2 fun x hx => Pl.wf_u64 (w1 x hx)
  have hb2 := Pl.wf_u8 w2
  have hb4 := Pl.wf_u8 w4
  obtain ⟨h0, h1⟩ := Pl.wf_u64 w3
  obtain ⟨n, rfl⟩ := Int.eq_ofNat_of_zero_le h0
  refine ⟨2, ?_⟩
  unfold waggonerlaw01_LeBack.f waggonerlaw01_awake.f
  rw [Option.bind_some]
  have out : waggonerlaw01_LeBack.j0 2 a0 l1 l2 (n : Int) l4 true true = some true := by
    simp only [waggonerlaw01_LeBack.j0]
    rw [if_pos trivial]
  by_cases c0 : (a0.size : Int) > 60
  · rw [if_pos c0]; exact out
  rw [if_neg c0]
  by_cases c1 : (l1.length : Int) > 60
  · rw [if_pos c1]; exact out
  rw [if_neg c1]
  by_cases c2 : (l2.length : Int) > 300
  · rw [if_pos c2]; exact out
  rw [if_neg c2]
  by_cases c4 : (l4.length : Int) > 300
  · rw [decide_eq_true c4]; exact out
  rw [decide_eq_false c4]
  have hs : a0.size < 2147483648 := by omega
  have go : waggonerlaw01_LeBack.j1 1 l2 (n : Int) l4 true (strOfNums l2) false = some true := by
    have hp : le_Put.f l2 (n : Int) 8 = some (l2 ++ Pl.leB 8 n, 0) := by
      unfold le_Put.f
      rw [if_pos ⟨h0, h1, by omega⟩, Pl.putS, if_pos (Pl.fits_8 h1)]
      rfl
    have ht : le_Take.f (Pl.leB 8 n ++ l4) 8 = some ((n : Int), l4, 0) := by
      unfold le_Take.f
      have hd : (Pl.leB 8 n).length = (8 : Int).toNat := Pl.leB_length _ _
      rw [if_pos ⟨by rw [Pl.byteB_append, Pl.leB_byte, hb4]; rfl, by rw [List.length_append, Pl.leB_length]; omega⟩, Pl.takeS, if_pos ⟨by decide, by rw [List.length_append, Pl.leB_length]; omega⟩,
        List.take_left' hd, List.drop_left' hd, Pl.leN_leB, Nat.mod_eq_of_lt (by omega)]
    simp only [waggonerlaw01_LeBack.j1]
    rw [if_neg (by decide), hp, Option.bind_some, if_pos (by rw [List.length_append, Pl.leB_length]; unfold wrap64; omega), Option.bind_some, if_pos (by omega), if_pos (by rw [List.length_append]; omega), Option.bind_some]
    rw [Int.toNat_natCast, List.drop_left, List.take_left, if_pos (by rw [Pl.leB_length]; decide), Option.bind_some, List.nil_append, if_pos (by rw [Pl.leB_length]; omega), ht, Option.bind_some]
    simp
  simp only [waggonerlaw01_LeBack.j0]
  rw [if_neg (by decide), show le_Pack.f a0 l1 = some (Pl.packS (Pl.fb a0) l1) from by unfold le_Pack.f; rw [if_pos ⟨hu, hs⟩], Option.bind_some]
  have hl : (Pl.packS (Pl.fb a0) l1).1.length < 70368744177664 := by
    cases hp : Pl.packP (Pl.fb a0) l1 with
    | none => rw [Pl.packS_none hp]; decide
    | some r =>
      rw [Pl.packS_some hp]
      have h8 := Pl.formL_le (Pl.fb a0)
      have := Pl.packP_size hp
      rw [Pl.fb_length] at h8
      show r.length < _
      omega
  rw [show le_Unpack.f a0 (Pl.packS (Pl.fb a0) l1).1 = some (Pl.unpackS (Pl.fb a0) (Pl.packS (Pl.fb a0) l1).1) from by unfold le_Unpack.f; rw [if_pos ⟨Pl.packS_byte _ _, hl, hs⟩], Option.bind_some]
  cases hp : Pl.packP (Pl.fb a0) l1 with
  | none =>
    rw [Pl.packS_none hp]
    rw [if_neg (by decide), show decide ((([] : List Int).length : Int) > 0) = false from by decide]
    exact go
  | some r =>
    rw [Pl.packS_some hp]
    have hun := Pl.unpack_pack [] hu hp
    rw [List.append_nil] at hun
    rw [Pl.unpackS_some hun, if_pos rfl, if_pos rfl, show waggonerref01_Same.f l1 l1 = some true from by unfold waggonerref01_Same.f; rw [if_pos (by omega)]; simp, Option.bind_some, if_pos rfl]
    exact go
end Go.Proofs.Ytiaoehjldbnpkaa.Pure
