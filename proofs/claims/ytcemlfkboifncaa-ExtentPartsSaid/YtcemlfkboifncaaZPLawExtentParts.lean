/- For every input the Go function waggoner/waggonerlaw07.ExtentParts returns true, and its arguments read behind the call as they read before it. No condition. (Written by a program of this workplace.) -/
import Derived.Test.YtcemlfkboifncaaRows
import Derived.Test.YtcemlfkboifncaaZPPPx36
import Derived.Test.YtcemlfkboifncaaZPPureExtentParts
import Derived.Test.YtcemlfkboifncaaZPOpen
import Derived.WalkKit
import Derived.ProofKit
import Derived.OpenShut
import Derived.ShutString
import Derived.ChangeOld
import Derived.Below
import Derived.SizedLaws
namespace Go.Proofs.Ytcemlfkboifncaa.extentParts
open Go Go.ChangeShapes Go.WideShapes Go.ChangeAt Go.RowKit
open Go.Proofs.YtcemlfkboifncaaW.PrintWords
set_option linter.unusedVariables false
theorem own : ownKnob Try.prog.godebug = none := by kernel_rfl
theorem laidOut : laidOutB Try.prog = true := by kernel_rfl
set_option maxRecDepth 100000 in
theorem lifted (os : Os) (started : os.Started) (H : Type) (enc : TypeId × Value → H) :
    ReturnsInHanded {} Try.checked os 13 .any (Rows.extentPartsSpec.pre6 enc Try.prog Try.f13 Rows.extentPartsRow.domain false) (Rows.extentPartsSpec.post enc Try.prog Try.f13 false true false false) := by
  refine returnsInHanded_of_change_sized (C := Try.checked) own started (by kernel_rfl) Try.func13
    (ChangeSpec.witness6 (enc := enc) (C := Try.checked) false ⟨#[], #[.agg #[.int .i64 0, .int .i64 0, .int .i64 0, .int .i64 0, .slice none 0 0], .int .u8 0, .int .u8 0, .int .u8 0], []⟩ 8 (by kernel_rfl) (by kernel_rfl) (by kernel_rfl) (by kernel_rfl)) ?_
  intro W base args ds gs before hval0 hW hcnd hsz0 _
  have hval : ∀ (j : Nat) t v, Try.f13.params[j]? = some t → args[j]? = some v → Value.okWide Try.prog W .any base t v := hval0
  have hW' := hW
  obtain ⟨p, q, hA0, hV, rfl, hfz, hnd⟩ := hW
  have hA : DataW.TrodAll enc Try.prog W 0 (fun _ => true) true Try.f13.params.toList args.toList ds p := hA0
  rw [Try.params13] at hA hval
  obtain ⟨v0, vs0, d0, ds0, p0, q0, hargs, rfl, rfl, h0, r0⟩ := trodAll_cons hA
  obtain ⟨v1, vs1, d1, ds1, p1, q1, rfl, rfl, rfl, h1, r1⟩ := trodAll_cons r0
  obtain ⟨v2, vs2, d2, ds2, p2, q2, rfl, rfl, rfl, h2, r2⟩ := trodAll_cons r1
  obtain ⟨v3, vs3, d3, ds3, p3, q3, rfl, rfl, rfl, h3, r3⟩ := trodAll_cons r2
  obtain ⟨rfl, rfl, rfl⟩ := trodAll_nil r3
  obtain rfl : args = #[v0, v1, v2, v3] := by cases args; simp_all
  obtain ⟨rfl, rfl⟩ := trodVars_none hV
  have k0 := h0
  have lt0 : ∀ x ∈ p0, x.block < W.heap.size := by obtain ⟨m, hm⟩ := k0; exact DataW.trod_lt m _ _ _ hm
  obtain ⟨cs0, rfl, hcz0⟩ := okWide_struct Try.underlying46 (hval 0 46 v0 rfl rfl)
  obtain ⟨fuel0, hf0⟩ := h0
  obtain ⟨hl0, hfl0⟩ := Kx.open_fields Try.underlying46 (by kernel_rfl) (by kernel_rfl) hf0
  obtain ⟨c0_0, y0_0, n0_0, e0_0, t0_0⟩ := hfl0 0 _ rfl
  obtain ⟨x0_0, rfl, w0_0⟩ := Kx.open_field_int Try.underlying3 t0_0
  obtain ⟨c0_1, y0_1, n0_1, e0_1, t0_1⟩ := hfl0 1 _ rfl
  obtain ⟨x0_1, rfl, w0_1⟩ := Kx.open_field_int Try.underlying3 t0_1
  obtain ⟨c0_2, y0_2, n0_2, e0_2, t0_2⟩ := hfl0 2 _ rfl
  obtain ⟨x0_2, rfl, w0_2⟩ := Kx.open_field_int Try.underlying3 t0_2
  obtain ⟨c0_3, y0_3, n0_3, e0_3, t0_3⟩ := hfl0 3 _ rfl
  obtain ⟨x0_3, rfl, w0_3⟩ := Kx.open_field_int Try.underlying3 t0_3
  obtain ⟨c0_4, y0_4, n0_4, e0_4, t0_4⟩ := hfl0 4 _ rfl
  obtain ⟨A0_4, C0_4, l0_4, rfl, hc0_4, hm0_4, hr0_4, hw0_4⟩ := Kx.open_field_ints Try.underlying23 Try.underlying5 (by kernel_rfl) t0_4
  obtain rfl := Kx.agg_list (l := [.int .i64 x0_0, .int .i64 x0_1, .int .i64 x0_2, .int .i64 x0_3, .slice A0_4 l0_4.length C0_4]) hl0 (fun j hj => by
    match j, hj with
    | 0, _ => exact e0_0
    | 1, _ => exact e0_1
    | 2, _ => exact e0_2
    | 3, _ => exact e0_3
    | 4, _ => exact e0_4
    | j + 5, hj => exact absurd hj (by simp))
  obtain ⟨a1, rfl, rfl, rfl, w1⟩ := open_int Try.underlying5 (hval 1 5 v1 rfl rfl) h1
  obtain ⟨a2, rfl, rfl, rfl, w2⟩ := open_int Try.underlying5 (hval 2 5 v2 rfl rfl) h2
  obtain ⟨a3, rfl, rfl, rfl, w3⟩ := open_int Try.underlying5 (hval 3 5 v3 rfl rfl) h3
  clear hA0 hval0 hsz0
  obtain ⟨kk, hP⟩ := Pure.ExtentParts x0_0 x0_1 x0_2 x0_3 l0_4 a1 a2 a3 w0_0 w0_1 w0_2 w0_3 hw0_4 w1 w2 w3
  refine (PP.waggonerlaw07_ExtentParts.calls kk x0_0 x0_1 x0_2 x0_3 _ _ l0_4 a1 a2 a3 true rfl W hr0_4 hc0_4 hP).mono fun e W' ⟨he, bel⟩ => ?_
  subst he
  exact ⟨_, rfl, _, _, _, [], _, [], hW', trodAll_mk1 (shut_bool Try.underlying4 _), (trodAll_cons_mk (Below.trod laidOut (by kernel_rfl) (of_decide_eq_true (by kernel_rfl)) k0 bel lt0) (trodAll_cons_mk (shut_int Try.underlying5 w1) (trodAll_cons_mk (shut_int Try.underlying5 w2) (trodAll_cons_mk (shut_int Try.underlying5 w3) trodAll_mk0)))), rfl, bel.frame _, fun h => by cases h⟩
theorem over : Rows.extentPartsRow.holds Try.pinned (OpenSpec.ofChange Rows.extentPartsSpec) :=
  OpenClaim.holds_of_wide 13 Try.f13 rfl rfl rfl rfl rfl rfl rfl ⟨rfl, rfl, rfl, rfl, rfl⟩ rfl rfl rfl rfl rfl (by kernel_rfl) Try.func13 (by kernel_rfl)
    (of_decide_eq_true (by kernel_rfl)) (by unfold Func.isWrapper; first | (rw [if_pos (by decide +kernel)]; kernel_rfl) | (rw [if_neg (by decide +kernel)]; exact ⟨rfl, rfl⟩))
    (fun os started H enc _ => lifted os started H enc)
theorem proved : Rows.ExtentPartsSaid := over
#print axioms proved
end Go.Proofs.Ytcemlfkboifncaa.extentParts
namespace Go.Proofs.Ytcemlfkboifncaa
theorem extentParts_holds : Rows.ExtentPartsSaid := extentParts.proved
end Go.Proofs.Ytcemlfkboifncaa
