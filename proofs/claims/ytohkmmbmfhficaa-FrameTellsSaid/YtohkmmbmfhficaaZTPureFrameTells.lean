/- Words and walks that this claim names, of those that the kit's print and programs of this workplace have printed. -/
import Derived.Test.YtohkmmbmfhficaaZTPTx76
import Derived.Test.YtohkmmbmfhficaaZTFrm
import Derived.Test.YtohkmmbmfhficaaZTStr
namespace Go.Proofs.Ytohkmmbmfhficaa.Pure
open Go.RowKit Go.Proofs.Ytohkmmbmfhficaa.PT Go.Proofs.YtohkmmbmfhficaaW.PrintWords Go.Proofs.YtohkmmbmfhficaaW.PrintLast
set_option linter.unusedVariables false
theorem fread_data {b : List Int} (hb : Pl.byteB b = true) : Pl.byteB (Pl.freadS b).1.2.2.2.1 = true := by
  rcases Pl.freadS_cases b with ⟨k, a, n, d, A, B, C, r, h, e, hr⟩ | ⟨-, hr | hr⟩
  · rw [hr]
    have hby := hb
    rw [e, Pl.byteB_append, Pl.frW, Pl.seal4, Pl.byteB_append, Pl.frB, Pl.byteB_append, Pl.byteB_append, Bool.and_eq_true, Bool.and_eq_true, Bool.and_eq_true, Bool.and_eq_true] at hby
    have ht := hby.1.1.2.2
    show Pl.byteB d = true
    rcases Pl.frOk_iff.1 h with q | q | q | q
    · rw [q.2.2.2.1]; rfl
    · rw [Pl.frT, if_neg (by omega), if_neg (by omega), Pl.byteB_append, Pl.byteB_append, Bool.and_eq_true, Bool.and_eq_true] at ht
      exact ht.2.2
    · rw [q.2.2.2.2.2.2.2.2]; rfl
    · rw [q.2.2.2.1]; rfl
  · rw [hr]; rfl
  · rw [hr]; rfl
theorem FrameTells (k a n : Int) (d : List Int) (A B C : Int) (b : List Int) (w0 : (Lit.int .i64 k).wf = true) (w1 : (Lit.int .i64 a).wf = true) (w2 : (Lit.int .i64 n).wf = true) (wd : ∀ x ∈ d, (Lit.int .u8 x).wf = true) (w4 : (Lit.int .i64 A).wf = true) (w5 : (Lit.int .i64 B).wf = true) (w6 : (Lit.int .i64 C).wf = true) (wb : ∀ x ∈ b, (Lit.int .u8 x).wf = true) : ∃ kk, waggonerlaw16_FrameTells.f kk k a n d A B C b = some true := by
  have hl := Pl.wf_u8 wd
  have hb := Pl.wf_u8 wb
  refine ⟨1, ?_⟩
  unfold waggonerlaw16_FrameTells.f waggonerlaw16_awake.f
  rw [Option.bind_some]
  have out : waggonerlaw16_FrameTells.j0 1 b true true k a n d A B C = some true := by
    simp only [waggonerlaw16_FrameTells.j0]
    rw [if_pos trivial]
  by_cases c0 : (d.length : Int) > 5000
  · rw [if_pos c0]; exact out
  rw [if_neg c0]
  by_cases c1 : (b.length : Int) > 5000
  · rw [decide_eq_true c1]; exact out
  rw [decide_eq_false c1]
  have s1 := fread_data hb
  simp only [waggonerlaw16_FrameTells.j0]
  rw [if_neg (by decide), frame_Write.tells hl, Option.bind_some, waggonerref16_Write.tells hl (by omega), Option.bind_some]
  unfold frame_Read.f waggonerref16_Read.f
  rw [if_pos ⟨hb, by omega⟩, Option.bind_some, Option.bind_some]
  dsimp only
  rw [waggonerref16_Same.tells s1 s1, Option.bind_some, if_pos trivial, frame_Check.tells hl, Option.bind_some, waggonerref16_Check.tells (by omega), Option.bind_some, if_pos (by simp), if_pos rfl, if_pos rfl, if_pos (by simp), if_pos rfl]
  simp
end Go.Proofs.Ytohkmmbmfhficaa.Pure
