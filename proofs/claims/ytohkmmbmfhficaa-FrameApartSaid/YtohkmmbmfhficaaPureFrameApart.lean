/- For any two frames the law's answer is true: unlike frames have unlike bytes, and neither one's begin with the other one's. -/
import Derived.Test.YtohkmmbmfhficaaPAx47
import Derived.Test.YtohkmmbmfhficaaFrm
import Derived.Test.YtohkmmbmfhficaaStr
namespace Go.Proofs.Ytohkmmbmfhficaa.Pure
open Go.RowKit Go.Proofs.Ytohkmmbmfhficaa.PA Go.Proofs.YtohkmmbmfhficaaW.PrintWords Go.Proofs.YtohkmmbmfhficaaW.PrintLast
set_option linter.unusedVariables false
/-- One frame's bytes that another one's begin with. -/
theorem frame_prefix {k a n : Int} {d : List Int} {A B C k' a' n' : Int} {d' : List Int} {A' B' C' : Int} (h : Pl.frOk k a n d A B C = true) (h' : Pl.frOk k' a' n' d' A' B' C' = true) (hp : (Pl.frW k' a' n' d' A' B' C').take (Pl.frW k a n d A B C).length = Pl.frW k a n d A B C) : k = k' ∧ a = a' ∧ n = n' ∧ d = d' ∧ A = A' ∧ B = B' ∧ C = C' := by
  have e : Pl.frW k a n d A B C ++ (Pl.frW k' a' n' d' A' B' C').drop (Pl.frW k a n d A B C).length = Pl.frW k' a' n' d' A' B' C' ++ [] := by
    conv => rhs; rw [List.append_nil, ← List.take_append_drop (Pl.frW k a n d A B C).length (Pl.frW k' a' n' d' A' B' C'), hp]
  have := (Pl.frW_inj h h' e).1
  simp only [Prod.mk.injEq] at this
  exact this
theorem FrameApart (k a n : Int) (d : List Int) (A B C k' a' n' : Int) (d' : List Int) (A' B' C' : Int) (w0 : (Lit.int .i64 k).wf = true) (w1 : (Lit.int .i64 a).wf = true) (w2 : (Lit.int .i64 n).wf = true) (wd : ∀ x ∈ d, (Lit.int .u8 x).wf = true) (w4 : (Lit.int .i64 A).wf = true) (w5 : (Lit.int .i64 B).wf = true) (w6 : (Lit.int .i64 C).wf = true) (v0 : (Lit.int .i64 k').wf = true) (v1 : (Lit.int .i64 a').wf = true) (v2 : (Lit.int .i64 n').wf = true) (vd : ∀ x ∈ d', (Lit.int .u8 x).wf = true) (v4 : (Lit.int .i64 A').wf = true) (v5 : (Lit.int .i64 B').wf = true) (v6 : (Lit.int .i64 C').wf = true) : ∃ kk, waggonerlaw16_FrameApart.f kk k a n d A B C k' a' n' d' A' B' C' = some true := by
  have hl := Pl.wf_u8 wd
  have hl' := Pl.wf_u8 vd
  refine ⟨1, ?_⟩
  unfold waggonerlaw16_FrameApart.f waggonerlaw16_awake.f
  rw [Option.bind_some]
  have out : waggonerlaw16_FrameApart.j0 1 true true k a n d A B C k' a' n' d' A' B' C' = some true := by
    simp only [waggonerlaw16_FrameApart.j0]
    rw [if_pos trivial]
  by_cases c0 : (d.length : Int) > 5000
  · rw [if_pos c0]; exact out
  rw [if_neg c0]
  by_cases c1 : (d'.length : Int) > 5000
  · rw [decide_eq_true c1]; exact out
  rw [decide_eq_false c1]
  simp only [waggonerlaw16_FrameApart.j0]
  rw [if_neg (by decide), frame_Write.tells hl, Option.bind_some, frame_Write.tells hl', Option.bind_some]
  by_cases ho : Pl.frOk k a n d A B C = true
  rotate_left
  · rw [Pl.fwriteS, if_neg ho, if_neg (by decide)]
  by_cases ho' : Pl.frOk k' a' n' d' A' B' C' = true
  rotate_left
  · rw [Pl.fwriteS, if_pos ho, if_pos rfl, Pl.fwriteS, if_neg ho', if_neg (by decide)]
  rw [Pl.fwriteS, if_pos ho, if_pos rfl, Pl.fwriteS, if_pos ho', if_pos rfl, waggonerref16_Same.tells hl hl', Option.bind_some, if_pos trivial]
  obtain ⟨m, hm⟩ : ∃ m, m = min (Pl.frW k a n d A B C).length (Pl.frW k' a' n' d' A' B' C').length := ⟨_, rfl⟩
  have hmn : mn ((Pl.frW k a n d A B C).length : Int) ((Pl.frW k' a' n' d' A' B' C').length : Int) = (m : Int) := by unfold mn; omega
  dsimp only
  rw [hmn, if_pos (by omega), if_pos (by omega), if_pos (by omega), Int.toNat_natCast, Pl.str_eq (Pl.byteB_take (Pl.frW_byte hl) _) (Pl.byteB_take (Pl.frW_byte hl') _)]
  rw [Option.some.injEq, beq_iff_eq, Bool.eq_iff_iff, beq_iff_eq, decide_eq_true_eq]
  constructor
  · intro h
    by_cases hle : (Pl.frW k a n d A B C).length ≤ (Pl.frW k' a' n' d' A' B' C').length
    · rw [show m = (Pl.frW k a n d A B C).length from by omega, List.take_length] at h
      exact frame_prefix ho ho' h.symm
    · rw [show m = (Pl.frW k' a' n' d' A' B' C').length from by omega, List.take_length] at h
      obtain ⟨e0, e1, e2, e3, e4, e5, e6⟩ := frame_prefix ho' ho h
      exact ⟨e0.symm, e1.symm, e2.symm, e3.symm, e4.symm, e5.symm, e6.symm⟩
  · rintro ⟨rfl, rfl, rfl, rfl, rfl, rfl, rfl⟩
    rfl
end Go.Proofs.Ytohkmmbmfhficaa.Pure
