/- For every input the Go function waggoner/waggonerlaw05.RecordAll returns true, and its arguments read behind the call as they read before it. No condition. (Written by a program of this workplace.) -/
import Derived.Test.YtcemlfkboifncaaRows
import Derived.Test.YtcemlfkboifncaaZAPAx36
import Derived.Test.YtcemlfkboifncaaZAPureRecordAll
import Derived.Test.YtcemlfkboifncaaZAOpen
import Derived.WalkKit
import Derived.ProofKit
import Derived.OpenShut
import Derived.ShutString
import Derived.ChangeOld
import Derived.Below
import Derived.SizedLaws
namespace Go.Proofs.Ytcemlfkboifncaa.recordAll
open Go Go.ChangeShapes Go.WideShapes Go.ChangeAt Go.RowKit
open Go.Proofs.YtcemlfkboifncaaW.PrintWords
set_option linter.unusedVariables false
theorem own : ownKnob Try.prog.godebug = none := by kernel_rfl
theorem laidOut : laidOutB Try.prog = true := by kernel_rfl
set_option maxRecDepth 100000 in
theorem lifted (os : Os) (started : os.Started) (H : Type) (enc : TypeId × Value → H) :
    ReturnsInHanded {} Try.checked os 6 .any (Rows.recordAllSpec.pre6 enc Try.prog Try.f6 Rows.recordAllRow.domain false) (Rows.recordAllSpec.post enc Try.prog Try.f6 false true false false) := by
  refine returnsInHanded_of_change_sized (C := Try.checked) own started (by kernel_rfl) Try.func6
    (ChangeSpec.witness6 (enc := enc) (C := Try.checked) false ⟨#[], #[.slice none 0 0, .int .u16 0], []⟩ 8 (by kernel_rfl) (by kernel_rfl) (by kernel_rfl) (by kernel_rfl)) ?_
  intro W base args ds gs before hval0 hW hcnd hsz0 _
  have hval : ∀ (j : Nat) t v, Try.f6.params[j]? = some t → args[j]? = some v → Value.okWide Try.prog W .any base t v := hval0
  have hW' := hW
  obtain ⟨p, q, hA0, hV, rfl, hfz, hnd⟩ := hW
  have hA : DataW.TrodAll enc Try.prog W 0 (fun _ => true) true Try.f6.params.toList args.toList ds p := hA0
  rw [Try.params6] at hA hval
  obtain ⟨v0, vs0, d0, ds0, p0, q0, hargs, rfl, rfl, h0, r0⟩ := trodAll_cons hA
  obtain ⟨v1, vs1, d1, ds1, p1, q1, rfl, rfl, rfl, h1, r1⟩ := trodAll_cons r0
  obtain ⟨rfl, rfl, rfl⟩ := trodAll_nil r1
  obtain rfl : args = #[v0, v1] := by cases args; simp_all
  obtain ⟨rfl, rfl⟩ := trodVars_none hV
  have k0 := h0
  have lt0 : ∀ x ∈ p0, x.block < W.heap.size := by obtain ⟨m, hm⟩ := k0; exact DataW.trod_lt m _ _ _ hm
  obtain ⟨a0, len0, cap0, rfl⟩ := okWide_slice Try.underlying35 (hval 0 35 v0 rfl rfl)
  obtain ⟨fuel0, hf0⟩ := h0
  obtain ⟨A0, C0, l0, hcs0, hc0, hm0, hr0, hw0⟩ := Kx.open_field_slice (d := PA.k25) (v := .slice a0 len0 cap0) (fun s : PA.S25 => (Lit.int .i64 s.f0).wf = true ∧ (Lit.int .i64 s.f1).wf = true ∧ (∀ x ∈ s.f2, (Lit.int .u8 x).wf = true)) Try.underlying35 (by kernel_rfl) (fun m cs x ht => by
      obtain ⟨hl, hfl⟩ := Kx.open_fields Try.underlying25 (by kernel_rfl) (by kernel_rfl) ht
      obtain ⟨c0, y0, n0, e0, t0⟩ := hfl 0 _ rfl
      obtain ⟨x0, rfl, w0⟩ := Kx.open_field_int Try.underlying3 t0
      obtain ⟨c1, y1, n1, e1, t1⟩ := hfl 1 _ rfl
      obtain ⟨x1, rfl, w1⟩ := Kx.open_field_int Try.underlying3 t1
      obtain ⟨c2, y2, n2, e2, t2⟩ := hfl 2 _ rfl
      obtain ⟨A2, C2, l2, rfl, hc2, hm2, hr2, hw2⟩ := Kx.open_field_ints Try.underlying23 Try.underlying5 (by kernel_rfl) t2
      obtain rfl : cs = [.int .i64 x0, .int .i64 x1, .slice A2 l2.length C2] := List.ext_getElem? fun j => by
        match j with
        | 0 => exact e0
        | 1 => exact e1
        | 2 => exact e2
        | j + 3 => exact (List.getElem?_eq_none (by rw [hl]; exact Nat.le_add_left _ _)).trans rfl
      exact ⟨⟨x0, x1, l2⟩, PA.k25_mk _ ⟨x0, x1, l2⟩ hc2 hr2, ⟨w0, w1, hw2⟩⟩) hf0
  injection hcs0 with e0 e1 e2
  subst e0 e1 e2
  obtain ⟨a1, rfl, rfl, rfl, w1⟩ := open_int Try.underlying42 (hval 1 42 v1 rfl rfl) h1
  clear hA0 hval0 hsz0
  obtain ⟨kk, hP⟩ := Pure.RecordAll l0 a1 hw0 w1
  refine (PA.waggonerlaw05_RecordAll.calls kk (fun k_ => k_ < W.heap.size) _ _ l0 a1 true rfl W (Kd.V_mk hc0 (Kd.C_F (Kd.heap_iso _ (Kd.heap_pair (Kd.heap_int .i64) (Kd.heap_pair (Kd.heap_int .i64) (Kd.heap_slice _ (Kd.heap_int .u8))))) hr0)) hP).mono fun e W' ⟨he, bel⟩ => ?_
  subst he
  exact ⟨_, rfl, _, _, _, [], _, [], hW', trodAll_mk1 (shut_bool Try.underlying4 _), (trodAll_cons_mk (Below.trod laidOut (by kernel_rfl) (of_decide_eq_true (by kernel_rfl)) k0 bel lt0) (trodAll_cons_mk (shut_int Try.underlying42 w1) trodAll_mk0)), rfl, bel.frame _, fun h => by cases h⟩
theorem over : Rows.recordAllRow.holds Try.pinned (OpenSpec.ofChange Rows.recordAllSpec) :=
  OpenClaim.holds_of_wide 6 Try.f6 rfl rfl rfl rfl rfl rfl rfl ⟨rfl, rfl, rfl, rfl, rfl⟩ rfl rfl rfl rfl rfl (by kernel_rfl) Try.func6 (by kernel_rfl)
    (of_decide_eq_true (by kernel_rfl)) (by unfold Func.isWrapper; first | (rw [if_pos (by decide +kernel)]; kernel_rfl) | (rw [if_neg (by decide +kernel)]; exact ⟨rfl, rfl⟩))
    (fun os started H enc _ => lifted os started H enc)
theorem proved : Rows.RecordAllSaid := over
#print axioms proved
end Go.Proofs.Ytcemlfkboifncaa.recordAll
namespace Go.Proofs.Ytcemlfkboifncaa
theorem recordAll_holds : Rows.RecordAllSaid := recordAll.proved
end Go.Proofs.Ytcemlfkboifncaa
