/- For every input the Go function waggoner/waggonerlaw16.FrameTells returns true, and its arguments read behind the call as they read before it. No condition. (Written by a program of this workplace.) -/
import Derived.Test.YtohkmmbmfhficaaRows
import Derived.Test.YtohkmmbmfhficaaZTPTx76
import Derived.Test.YtohkmmbmfhficaaZTPureFrameTells
import Derived.Test.YtohkmmbmfhficaaZTOpen
import Derived.WalkKit
import Derived.ProofKit
import Derived.OpenShut
import Derived.ShutString
import Derived.ChangeOld
import Derived.Below
import Derived.SizedLaws
namespace Go.Proofs.Ytohkmmbmfhficaa.frameTells
open Go Go.ChangeShapes Go.WideShapes Go.ChangeAt Go.RowKit
open Go.Proofs.YtohkmmbmfhficaaW.PrintWords
set_option linter.unusedVariables false
theorem own : ownKnob Try.prog.godebug = none := by kernel_rfl
theorem laidOut : laidOutB Try.prog = true := by kernel_rfl
set_option maxRecDepth 100000 in
theorem lifted (os : Os) (started : os.Started) (H : Type) (enc : TypeId × Value → H) :
    ReturnsInHanded {} Try.checked os 6 .any (Rows.frameTellsSpec.pre6 enc Try.prog Try.f6 Rows.frameTellsRow.domain false) (Rows.frameTellsSpec.post enc Try.prog Try.f6 false true false false) := by
  refine returnsInHanded_of_change_sized (C := Try.checked) own started (by kernel_rfl) Try.func6
    (ChangeSpec.witness6 (enc := enc) (C := Try.checked) false ⟨#[], #[.agg #[.int .i64 0, .int .i64 0, .int .i64 0, .slice none 0 0, .int .i64 0, .int .i64 0, .int .i64 0], .slice none 0 0], []⟩ 8 (by kernel_rfl) (by kernel_rfl) (by kernel_rfl) (by kernel_rfl)) ?_
  intro W base args ds gs before hval0 hW hcnd hsz0 _
  have hval : ∀ (j : Nat) t v, Try.f6.params[j]? = some t → args[j]? = some v → Value.okWide Try.prog W .any base t v := hval0
  have hW' := hW
  obtain ⟨p, q, hA0, hV, rfl, hfz, hnd⟩ := hW
  have hA : DataW.TrodAll enc Try.prog W 0 (fun _ => true) true Try.f6.params.toList args.toList ds p := hA0
  rw [Try.params6] at hA hval
  obtain ⟨v0, vs0, d0, ds0, p0, q0, hargs, rfl, rfl, h0, r0⟩ := trodAll_cons hA
  obtain ⟨v1, vs1, d1, ds1, p1, q1, rfl, rfl, rfl, h1, r1⟩ := trodAll_cons r0
  obtain ⟨rfl, rfl, rfl⟩ := trodAll_nil r1
  obtain rfl : args = #[v0, v1] := by cases args; simp_all
  obtain ⟨rfl, rfl⟩ := trodVars_none hV
  have k0 := h0
  have lt0 : ∀ x ∈ p0, x.block < W.heap.size := by obtain ⟨m, hm⟩ := k0; exact DataW.trod_lt m _ _ _ hm
  obtain ⟨cs0, rfl, hcz0⟩ := okWide_struct Try.underlying38 (hval 0 38 v0 rfl rfl)
  obtain ⟨fuel0, hf0⟩ := h0
  obtain ⟨hl0, hfl0⟩ := Kx.open_fields Try.underlying38 (by kernel_rfl) (by kernel_rfl) hf0
  obtain ⟨c0_0, y0_0, n0_0, e0_0, t0_0⟩ := hfl0 0 _ rfl
  obtain ⟨x0_0, rfl, w0_0⟩ := Kx.open_field_int Try.underlying3 t0_0
  obtain ⟨c0_1, y0_1, n0_1, e0_1, t0_1⟩ := hfl0 1 _ rfl
  obtain ⟨x0_1, rfl, w0_1⟩ := Kx.open_field_int Try.underlying3 t0_1
  obtain ⟨c0_2, y0_2, n0_2, e0_2, t0_2⟩ := hfl0 2 _ rfl
  obtain ⟨x0_2, rfl, w0_2⟩ := Kx.open_field_int Try.underlying3 t0_2
  obtain ⟨c0_3, y0_3, n0_3, e0_3, t0_3⟩ := hfl0 3 _ rfl
  obtain ⟨A0_3, C0_3, l0_3, rfl, hc0_3, hm0_3, hr0_3, hw0_3⟩ := Kx.open_field_ints Try.underlying27 Try.underlying5 (by kernel_rfl) t0_3
  obtain ⟨c0_4, y0_4, n0_4, e0_4, t0_4⟩ := hfl0 4 _ rfl
  obtain ⟨x0_4, rfl, w0_4⟩ := Kx.open_field_int Try.underlying3 t0_4
  obtain ⟨c0_5, y0_5, n0_5, e0_5, t0_5⟩ := hfl0 5 _ rfl
  obtain ⟨x0_5, rfl, w0_5⟩ := Kx.open_field_int Try.underlying3 t0_5
  obtain ⟨c0_6, y0_6, n0_6, e0_6, t0_6⟩ := hfl0 6 _ rfl
  obtain ⟨x0_6, rfl, w0_6⟩ := Kx.open_field_int Try.underlying3 t0_6
  obtain rfl := Kx.agg_list (l := [.int .i64 x0_0, .int .i64 x0_1, .int .i64 x0_2, .slice A0_3 l0_3.length C0_3, .int .i64 x0_4, .int .i64 x0_5, .int .i64 x0_6]) hl0 (fun j hj => by
    match j, hj with
    | 0, _ => exact e0_0
    | 1, _ => exact e0_1
    | 2, _ => exact e0_2
    | 3, _ => exact e0_3
    | 4, _ => exact e0_4
    | 5, _ => exact e0_5
    | 6, _ => exact e0_6
    | j + 7, hj => exact absurd hj (by simp))
  have k1 := h1
  have lt1 : ∀ x ∈ p1, x.block < W.heap.size := by obtain ⟨m, hm⟩ := k1; exact DataW.trod_lt m _ _ _ hm
  obtain ⟨a1, len1, cap1, rfl⟩ := okWide_slice Try.underlying27 (hval 1 27 v1 rfl rfl)
  obtain ⟨fuel1, hf1⟩ := h1
  obtain ⟨A1, C1, l1, hcs1, hc1, hm1, hr1, hw1⟩ := Kx.open_field_ints (v := .slice a1 len1 cap1) Try.underlying27 Try.underlying5 (by kernel_rfl) hf1
  injection hcs1 with e0 e1 e2
  subst e0 e1 e2
  clear hA0 hval0 hsz0
  obtain ⟨kk, hP⟩ := Pure.FrameTells x0_0 x0_1 x0_2 l0_3 x0_4 x0_5 x0_6 l1 w0_0 w0_1 w0_2 hw0_3 w0_4 w0_5 w0_6 hw1
  refine (PT.waggonerlaw16_FrameTells.calls kk x0_0 x0_1 x0_2 _ _ l0_3 x0_4 x0_5 x0_6 _ _ l1 true rfl W hr0_3 hc0_3 hr1 hc1 hP).mono fun e W' ⟨he, bel⟩ => ?_
  subst he
  exact ⟨_, rfl, _, _, _, [], _, [], hW', trodAll_mk1 (shut_bool Try.underlying4 _), (trodAll_cons_mk (Below.trod laidOut (by kernel_rfl) (of_decide_eq_true (by kernel_rfl)) k0 bel lt0) (trodAll_cons_mk (Below.trod laidOut (by kernel_rfl) (of_decide_eq_true (by kernel_rfl)) k1 bel lt1) trodAll_mk0)), rfl, bel.frame _, fun h => by cases h⟩
theorem over : Rows.frameTellsRow.holds Try.pinned (OpenSpec.ofChange Rows.frameTellsSpec) :=
  OpenClaim.holds_of_wide 6 Try.f6 rfl rfl rfl rfl rfl rfl rfl ⟨rfl, rfl, rfl, rfl, rfl⟩ rfl rfl rfl rfl rfl (by kernel_rfl) Try.func6 (by kernel_rfl)
    (of_decide_eq_true (by kernel_rfl)) (by unfold Func.isWrapper; first | (rw [if_pos (by decide +kernel)]; kernel_rfl) | (rw [if_neg (by decide +kernel)]; exact ⟨rfl, rfl⟩))
    (fun os started H enc _ => lifted os started H enc)
theorem proved : Rows.FrameTellsSaid := over
#print axioms proved
end Go.Proofs.Ytohkmmbmfhficaa.frameTells
namespace Go.Proofs.Ytohkmmbmfhficaa
theorem frameTells_holds : Rows.FrameTellsSaid := frameTells.proved
end Go.Proofs.Ytohkmmbmfhficaa
