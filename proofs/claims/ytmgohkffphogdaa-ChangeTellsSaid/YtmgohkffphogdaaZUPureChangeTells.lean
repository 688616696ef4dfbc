/- Words and walks that this claim names, of those that the kit's print and programs of this workplace have printed. -/
import Derived.Test.YtmgohkffphogdaaZUPUx70
import Derived.Test.YtmgohkffphogdaaZUChg
import Derived.Test.YtmgohkffphogdaaZUStr
namespace Go.Proofs.Ytmgohkffphogdaa.Pure
open Go.RowKit Go.Proofs.Ytmgohkffphogdaa.PU Go.Proofs.YtmgohkffphogdaaW.PrintWords Go.Proofs.YtmgohkffphogdaaW.PrintLast
set_option linter.unusedVariables false
theorem chg_few (k a n i : Int) (d : List Int) (l : List S39) : waggonerlaw10_Few.f k a n i d l = some (decide (d.length ≤ 5000) && (decide (l.length ≤ 70) && l.all fun s => decide (s.f4.length ≤ 3000))) := by
  unfold waggonerlaw10_Few.f waggonerlaw07_Few.f
  by_cases h : (d.length : Int) ≤ 5000
  · rw [if_pos h, Option.bind_some, decide_eq_true (show d.length ≤ 5000 by omega), Bool.true_and]
  · rw [if_neg h, decide_eq_false (show ¬ d.length ≤ 5000 by omega), Bool.false_and]
theorem chread_data {b : List Int} (hb : Pl.byteB b = true) : Pl.byteB (Pl.chreadS b).2.2.2.2.1 = true ∧ (∀ s ∈ (Pl.chreadS b).2.2.2.2.2.1.map ofE, Pl.byteB s.f4 = true) ∧ ((Pl.chreadS b).2.2.2.2.2.1.map ofE).length < 1073741824 := by
  rcases Pl.chreadS_cases hb with ⟨k, a, n, i, d, l, h, e, hr⟩ | ⟨-, hr⟩
  · rw [hr]
    dsimp only
    have hal := Pl.eAll_iff.1 (Pl.chOk_all h)
    have hby := hb
    rw [e, Pl.chW, Pl.byteB_append, Pl.byteB_append, Bool.and_eq_true, Bool.and_eq_true] at hby
    refine ⟨hby.2.1, ?_, by rw [List.length_map]; omega⟩
    by_cases k8 : k = 8
    · have hx := hby.2.2
      rw [if_pos k8] at hx
      have hB : Pl.byteB (Pl.extsB l) = true := by
        have : Pl.byteB ([(l.length : Int)] ++ Pl.extsB l) = true := hx
        rw [Pl.byteB_append, Bool.and_eq_true] at this
        exact this.2
      intro s hs
      obtain ⟨x, hx1, rfl⟩ := List.mem_map.1 hs
      exact Pl.extsB_data hB x hx1
    · rw [(Pl.chOk_lt h).2.2.2.2.2 k8]
      intro s hs
      exact absurd hs (by simp)
  · rw [hr]
    exact ⟨rfl, fun s hs => absurd hs (by simp [Pl.chBad]), by decide⟩
theorem ChangeTells (k a n i : Int) (d : List Int) (l : List S39) (b : List Int) (w0 : (Lit.int .i64 k).wf = true) (w1 : (Lit.int .i64 a).wf = true) (w2 : (Lit.int .i64 n).wf = true) (w3 : (Lit.int .i64 i).wf = true) (wd : ∀ x ∈ d, (Lit.int .u8 x).wf = true) (wl : ∀ s ∈ l, (Lit.int .i64 s.f0).wf = true ∧ (Lit.int .i64 s.f1).wf = true ∧ (Lit.int .i64 s.f2).wf = true ∧ (Lit.int .i64 s.f3).wf = true ∧ (∀ x ∈ s.f4, (Lit.int .u8 x).wf = true)) (wb : ∀ x ∈ b, (Lit.int .u8 x).wf = true) : ∃ kk, waggonerlaw10_ChangeTells.f kk k a n i d l b = some true := by
  have hd := Pl.wf_u8 wd
  have hb := Pl.wf_u8 wb
  have hn := Pl.wf_i64 w2
  refine ⟨1, ?_⟩
  unfold waggonerlaw10_ChangeTells.f waggonerlaw10_awake.f
  rw [Option.bind_some, chg_few, Option.bind_some]
  have out : waggonerlaw10_ChangeTells.j0 1 b true true k a n i d l = some true := by
    simp only [waggonerlaw10_ChangeTells.j0]
    rw [if_pos trivial]
  by_cases c0 : (decide (d.length ≤ 5000) && (decide (l.length ≤ 70) && l.all fun s => decide (s.f4.length ≤ 3000))) = true
  rotate_left
  · rw [if_neg c0]; exact out
  rw [if_pos c0]
  by_cases c1 : (b.length : Int) > 5000
  · rw [decide_eq_true c1]; exact out
  rw [decide_eq_false c1]
  rw [Bool.and_eq_true, Bool.and_eq_true, decide_eq_true_eq, decide_eq_true_eq] at c0
  obtain ⟨s1, s2, s3⟩ := chread_data hb
  simp only [waggonerlaw10_ChangeTells.j0]
  rw [if_neg (by decide), change_Write.tells (by omega) (by omega) hn.1 hn.2, Option.bind_some]
  unfold waggonerref10_Write.f waggonerref10_Check.f
  rw [Option.bind_some, change_Read.tells hb (by omega), Option.bind_some, waggonerref10_Read.tells hb (by omega), Option.bind_some]
  dsimp only
  rw [waggonerref10_Same.tells s1 s1 s2 s2 s3, Option.bind_some, if_pos trivial, change_Check.tells (by omega) (by omega) hn.1 hn.2, Option.bind_some, Option.bind_some, if_pos (by simp), if_pos rfl, if_pos rfl, if_pos (by simp)]
  simp
end Go.Proofs.Ytmgohkffphogdaa.Pure
