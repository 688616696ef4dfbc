/- For any frame and bytes the law's answer is true: what is written is read, whatever stands behind; of a beginning there are to be more. -/
import Derived.Test.YtohkmmbmfhficaaPBx47
import Derived.Test.YtohkmmbmfhficaaFrm
import Derived.Test.YtohkmmbmfhficaaStr
namespace Go.Proofs.Ytohkmmbmfhficaa.Pure
open Go.RowKit Go.Proofs.Ytohkmmbmfhficaa.PB Go.Proofs.YtohkmmbmfhficaaW.PrintWords Go.Proofs.YtohkmmbmfhficaaW.PrintLast
set_option linter.unusedVariables false
theorem FrameBack (k a n : Int) (d : List Int) (A B C : Int) (b : List Int) (u : Int) (w0 : (Lit.int .i64 k).wf = true) (w1 : (Lit.int .i64 a).wf = true) (w2 : (Lit.int .i64 n).wf = true) (wd : ∀ x ∈ d, (Lit.int .u8 x).wf = true) (w4 : (Lit.int .i64 A).wf = true) (w5 : (Lit.int .i64 B).wf = true) (w6 : (Lit.int .i64 C).wf = true) (wb : ∀ x ∈ b, (Lit.int .u8 x).wf = true) (wu : (Lit.int .u16 u).wf = true) : ∃ kk, waggonerlaw16_FrameBack.f kk k a n d A B C b u = some true := by
  have hl := Pl.wf_u8 wd
  have hb := Pl.wf_u8 wb
  have hu := Pl.wf_u16 wu
  refine ⟨1, ?_⟩
  unfold waggonerlaw16_FrameBack.f waggonerlaw16_awake.f
  rw [Option.bind_some]
  have out : waggonerlaw16_FrameBack.j0 1 b u true true k a n d A B C = some true := by
    simp only [waggonerlaw16_FrameBack.j0]
    rw [if_pos trivial]
  by_cases c0 : (d.length : Int) > 5000
  · rw [if_pos c0]; exact out
  rw [if_neg c0]
  by_cases c1 : (b.length : Int) > 5000
  · rw [decide_eq_true c1]; exact out
  rw [decide_eq_false c1]
  simp only [waggonerlaw16_FrameBack.j0]
  rw [if_neg (by decide), frame_Write.tells hl, Option.bind_some, frame_Check.tells hl]
  by_cases ho : Pl.frOk k a n d A B C = true
  rotate_left
  · rw [Pl.fwriteS, if_neg ho, if_neg (by decide), if_pos trivial, Bool.eq_false_iff.2 ho]
    rfl
  have hle := Pl.frW_le ho
  have hby := Pl.frW_byte (k := k) (a := a) (n := n) (A := A) (B := B) (C := C) hl
  rw [Pl.fwriteS, if_pos ho, if_pos rfl]
  dsimp only
  have q0 := Int.tmod_eq_emod_of_nonneg (a := u) (b := ((Pl.frW k a n d A B C).length : Int)) hu.1
  have q1 := Int.emod_nonneg u (show ((Pl.frW k a n d A B C).length : Int) ≠ 0 by omega)
  have q2 := Int.emod_lt_of_pos u (show (0 : Int) < ((Pl.frW k a n d A B C).length : Int) by omega)
  rw [if_neg (by omega), Option.bind_some, List.nil_append, if_pos (by rw [List.length_nil]; omega), Option.bind_some, if_pos (by omega), frame_Read.tells (by rw [Pl.byteB_append, hby, hb]; rfl) (by rw [List.length_append]; omega) (Pl.freadS_write b ho), Option.bind_some, if_neg (by omega), show wrap64 u = u by unfold wrap64; omega, q0, if_pos q1, if_pos (by omega), frame_Read.tells (Pl.byteB_take hby _) (by rw [List.length_take]; omega) (Pl.freadS_short ho (by omega)), Option.bind_some]
  dsimp only [Pl.frZ]
  rw [waggonerref16_Same.tells hl hl, Option.bind_some, if_pos trivial, if_pos (by simp), if_pos rfl, if_pos rfl, if_pos rfl]
  rfl
end Go.Proofs.Ytohkmmbmfhficaa.Pure
