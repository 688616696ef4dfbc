/- For every input the Go function waggoner/waggonerlaw16.FrameGoes returns true, and its arguments read behind the call as they read before it. No condition. (Written by a program of this workplace.) -/
import Derived.Test.YtohkmmbmfhficaaRows
import Derived.Test.YtohkmmbmfhficaaZGPGx47
import Derived.Test.YtohkmmbmfhficaaZGPureFrameGoes
import Derived.Test.YtohkmmbmfhficaaZGOpen
import Derived.WalkKit
import Derived.ProofKit
import Derived.OpenShut
import Derived.ShutString
import Derived.ChangeOld
import Derived.Below
import Derived.SizedLaws
namespace Go.Proofs.Ytohkmmbmfhficaa.frameGoes
open Go Go.ChangeShapes Go.WideShapes Go.ChangeAt Go.RowKit
open Go.Proofs.YtohkmmbmfhficaaW.PrintWords
set_option linter.unusedVariables false
theorem own : ownKnob Try.prog.godebug = none := by kernel_rfl
theorem laidOut : laidOutB Try.prog = true := by kernel_rfl
set_option maxRecDepth 100000 in
theorem lifted (os : Os) (started : os.Started) (H : Type) (enc : TypeId × Value → H) :
    ReturnsInHanded {} Try.checked os 10 .any (Rows.frameGoesSpec.pre6 enc Try.prog Try.f10 Rows.frameGoesRow.domain false) (Rows.frameGoesSpec.post enc Try.prog Try.f10 false true false false) := by
  refine returnsInHanded_of_change_sized (C := Try.checked) own started (by kernel_rfl) Try.func10
    (ChangeSpec.witness6 (enc := enc) (C := Try.checked) false ⟨#[], #[.slice none 0 0], []⟩ 8 (by kernel_rfl) (by kernel_rfl) (by kernel_rfl) (by kernel_rfl)) ?_
  intro W base args ds gs before hval0 hW hcnd hsz0 _
  have hval : ∀ (j : Nat) t v, Try.f10.params[j]? = some t → args[j]? = some v → Value.okWide Try.prog W .any base t v := hval0
  have hW' := hW
  obtain ⟨p, q, hA0, hV, rfl, hfz, hnd⟩ := hW
  have hA : DataW.TrodAll enc Try.prog W 0 (fun _ => true) true Try.f10.params.toList args.toList ds p := hA0
  rw [Try.params10] at hA hval
  obtain ⟨v0, vs0, d0, ds0, p0, q0, hargs, rfl, rfl, h0, r0⟩ := trodAll_cons hA
  obtain ⟨rfl, rfl, rfl⟩ := trodAll_nil r0
  obtain rfl : args = #[v0] := by cases args; simp_all
  obtain ⟨rfl, rfl⟩ := trodVars_none hV
  have k0 := h0
  have lt0 : ∀ x ∈ p0, x.block < W.heap.size := by obtain ⟨m, hm⟩ := k0; exact DataW.trod_lt m _ _ _ hm
  obtain ⟨a0, len0, cap0, rfl⟩ := okWide_slice Try.underlying49 (hval 0 49 v0 rfl rfl)
  obtain ⟨fuel0, hf0⟩ := h0
  obtain ⟨A0, C0, l0, hcs0, hc0, hm0, hr0, hw0⟩ := Kx.open_field_slice (d := PG.k38) (v := .slice a0 len0 cap0) (fun s : PG.S38 => (Lit.int .i64 s.f0).wf = true ∧ (Lit.int .i64 s.f1).wf = true ∧ (Lit.int .i64 s.f2).wf = true ∧ (∀ x ∈ s.f3, (Lit.int .u8 x).wf = true) ∧ (Lit.int .i64 s.f4).wf = true ∧ (Lit.int .i64 s.f5).wf = true ∧ (Lit.int .i64 s.f6).wf = true) Try.underlying49 (by kernel_rfl) (fun m cs x ht => by
      obtain ⟨hl, hfl⟩ := Kx.open_fields Try.underlying38 (by kernel_rfl) (by kernel_rfl) ht
      obtain ⟨c0, y0, n0, e0, t0⟩ := hfl 0 _ rfl
      obtain ⟨x0, rfl, w0⟩ := Kx.open_field_int Try.underlying3 t0
      obtain ⟨c1, y1, n1, e1, t1⟩ := hfl 1 _ rfl
      obtain ⟨x1, rfl, w1⟩ := Kx.open_field_int Try.underlying3 t1
      obtain ⟨c2, y2, n2, e2, t2⟩ := hfl 2 _ rfl
      obtain ⟨x2, rfl, w2⟩ := Kx.open_field_int Try.underlying3 t2
      obtain ⟨c3, y3, n3, e3, t3⟩ := hfl 3 _ rfl
      obtain ⟨A3, C3, l3, rfl, hc3, hm3, hr3, hw3⟩ := Kx.open_field_ints Try.underlying27 Try.underlying5 (by kernel_rfl) t3
      obtain ⟨c4, y4, n4, e4, t4⟩ := hfl 4 _ rfl
      obtain ⟨x4, rfl, w4⟩ := Kx.open_field_int Try.underlying3 t4
      obtain ⟨c5, y5, n5, e5, t5⟩ := hfl 5 _ rfl
      obtain ⟨x5, rfl, w5⟩ := Kx.open_field_int Try.underlying3 t5
      obtain ⟨c6, y6, n6, e6, t6⟩ := hfl 6 _ rfl
      obtain ⟨x6, rfl, w6⟩ := Kx.open_field_int Try.underlying3 t6
      obtain rfl : cs = [.int .i64 x0, .int .i64 x1, .int .i64 x2, .slice A3 l3.length C3, .int .i64 x4, .int .i64 x5, .int .i64 x6] := List.ext_getElem? fun j => by
        match j with
        | 0 => exact e0
        | 1 => exact e1
        | 2 => exact e2
        | 3 => exact e3
        | 4 => exact e4
        | 5 => exact e5
        | 6 => exact e6
        | j + 7 => exact (List.getElem?_eq_none (by rw [hl]; exact Nat.le_add_left _ _)).trans rfl
      exact ⟨⟨x0, x1, x2, l3, x4, x5, x6⟩, PG.k38_mk _ ⟨x0, x1, x2, l3, x4, x5, x6⟩ hc3 hr3, ⟨w0, w1, w2, hw3, w4, w5, w6⟩⟩) hf0
  injection hcs0 with e0 e1 e2
  subst e0 e1 e2
  clear hA0 hval0 hsz0
  obtain ⟨kk, hP⟩ := Pure.FrameGoes l0 hw0
  refine (PG.waggonerlaw16_FrameGoes.calls kk (fun k_ => k_ < W.heap.size) _ _ l0 true rfl W (Kd.V_mk hc0 (Kd.C_F (Kd.heap_iso _ (Kd.heap_pair (Kd.heap_int .i64) (Kd.heap_pair (Kd.heap_int .i64) (Kd.heap_pair (Kd.heap_int .i64) (Kd.heap_pair (Kd.heap_slice _ (Kd.heap_int .u8)) (Kd.heap_pair (Kd.heap_int .i64) (Kd.heap_pair (Kd.heap_int .i64) (Kd.heap_int .i64)))))))) hr0)) hP).mono fun e W' ⟨he, bel⟩ => ?_
  subst he
  exact ⟨_, rfl, _, _, _, [], _, [], hW', trodAll_mk1 (shut_bool Try.underlying4 _), (trodAll_cons_mk (Below.trod laidOut (by kernel_rfl) (of_decide_eq_true (by kernel_rfl)) k0 bel lt0) trodAll_mk0), rfl, bel.frame _, fun h => by cases h⟩
theorem over : Rows.frameGoesRow.holds Try.pinned (OpenSpec.ofChange Rows.frameGoesSpec) :=
  OpenClaim.holds_of_wide 10 Try.f10 rfl rfl rfl rfl rfl rfl rfl ⟨rfl, rfl, rfl, rfl, rfl⟩ rfl rfl rfl rfl rfl (by kernel_rfl) Try.func10 (by kernel_rfl)
    (of_decide_eq_true (by kernel_rfl)) (by unfold Func.isWrapper; first | (rw [if_pos (by decide +kernel)]; kernel_rfl) | (rw [if_neg (by decide +kernel)]; exact ⟨rfl, rfl⟩))
    (fun os started H enc _ => lifted os started H enc)
theorem proved : Rows.FrameGoesSaid := over
#print axioms proved
end Go.Proofs.Ytohkmmbmfhficaa.frameGoes
namespace Go.Proofs.Ytohkmmbmfhficaa
theorem frameGoes_holds : Rows.FrameGoesSaid := frameGoes.proved
end Go.Proofs.Ytohkmmbmfhficaa
