/- Words and walks that this claim names, of those that the kit's print and programs of this workplace have printed. -/
import Derived.Test.YtmgohkffphogdaaZAPAx46
import Derived.Test.YtmgohkffphogdaaZAChg
import Derived.Test.YtmgohkffphogdaaZAStr
namespace Go.Proofs.Ytmgohkffphogdaa.Pure
open Go.RowKit Go.Proofs.Ytmgohkffphogdaa.PA Go.Proofs.YtmgohkffphogdaaW.PrintWords Go.Proofs.YtmgohkffphogdaaW.PrintLast
set_option linter.unusedVariables false
theorem chg_few (k a n i : Int) (d : List Int) (l : List S39) : waggonerlaw10_Few.f k a n i d l = some (decide (d.length ≤ 5000) && (decide (l.length ≤ 70) && l.all fun s => decide (s.f4.length ≤ 3000))) := by
  unfold waggonerlaw10_Few.f waggonerlaw07_Few.f
  by_cases h : (d.length : Int) ≤ 5000
  · rw [if_pos h, Option.bind_some, decide_eq_true (show d.length ≤ 5000 by omega), Bool.true_and]
  · rw [if_neg h, decide_eq_false (show ¬ d.length ≤ 5000 by omega), Bool.false_and]
theorem chg_data {l : List S39} (h : ∀ s ∈ l, Pl.byteB s.f4 = true) : ∀ e ∈ l.map toE, Pl.byteB e.2.2.2.2 = true := by
  intro e he
  obtain ⟨s, hs, rfl⟩ := List.mem_map.1 he
  exact h s hs
theorem chg_read {b : List Int} (hb : Pl.byteB b = true) (hl : b.length < 1000000000) {k a n i : Int} {d : List Int} {l : List Pl.Ext} {e : Int} (h : Pl.chreadS b = (k, a, n, i, d, l, e)) : change_Read.f b = some (k, a, n, i, d, l.map ofE, e) := by
  rw [change_Read.tells hb hl, h]
theorem ChangeApart (k a n i : Int) (d : List Int) (l : List S39) (k' a' n' i' : Int) (d' : List Int) (l' : List S39) (u : Int) (w0 : (Lit.int .i64 k).wf = true) (w1 : (Lit.int .i64 a).wf = true) (w2 : (Lit.int .i64 n).wf = true) (w3 : (Lit.int .i64 i).wf = true) (wd : ∀ x ∈ d, (Lit.int .u8 x).wf = true) (wl : ∀ s ∈ l, (Lit.int .i64 s.f0).wf = true ∧ (Lit.int .i64 s.f1).wf = true ∧ (Lit.int .i64 s.f2).wf = true ∧ (Lit.int .i64 s.f3).wf = true ∧ (∀ x ∈ s.f4, (Lit.int .u8 x).wf = true)) (v0 : (Lit.int .i64 k').wf = true) (v1 : (Lit.int .i64 a').wf = true) (v2 : (Lit.int .i64 n').wf = true) (v3 : (Lit.int .i64 i').wf = true) (vd : ∀ x ∈ d', (Lit.int .u8 x).wf = true) (vl : ∀ s ∈ l', (Lit.int .i64 s.f0).wf = true ∧ (Lit.int .i64 s.f1).wf = true ∧ (Lit.int .i64 s.f2).wf = true ∧ (Lit.int .i64 s.f3).wf = true ∧ (∀ x ∈ s.f4, (Lit.int .u8 x).wf = true)) (wu : (Lit.int .u16 u).wf = true) : ∃ kk, waggonerlaw10_ChangeApart.f kk k a n i d l k' a' n' i' d' l' u = some true := by
  have hd := Pl.wf_u8 wd
  have hd' := Pl.wf_u8 vd
  have hu := Pl.wf_u16 wu
  have hn := Pl.wf_i64 w2
  have hn' := Pl.wf_i64 v2
  have hld : ∀ s ∈ l, Pl.byteB s.f4 = true := fun s hs => Pl.wf_u8 (wl s hs).2.2.2.2
  have hld' : ∀ s ∈ l', Pl.byteB s.f4 = true := fun s hs => Pl.wf_u8 (vl s hs).2.2.2.2
  refine ⟨2, ?_⟩
  unfold waggonerlaw10_ChangeApart.f waggonerlaw10_awake.f
  rw [Option.bind_some, chg_few, Option.bind_some, chg_few]
  have out : waggonerlaw10_ChangeApart.j0 2 u true true k a n i d l k' a' n' i' d' l' = some true := by
    simp only [waggonerlaw10_ChangeApart.j0]
    rw [if_pos trivial]
  by_cases c0 : (decide (d.length ≤ 5000) && (decide (l.length ≤ 70) && l.all fun s => decide (s.f4.length ≤ 3000))) = true
  rotate_left
  · rw [if_neg c0]; exact out
  rw [if_pos c0, Option.bind_some]
  by_cases c1 : (decide (d'.length ≤ 5000) && (decide (l'.length ≤ 70) && l'.all fun s => decide (s.f4.length ≤ 3000))) = true
  rotate_left
  · rw [Bool.eq_false_iff.2 c1]; exact out
  rw [c1]
  rw [Bool.and_eq_true, Bool.and_eq_true, decide_eq_true_eq, decide_eq_true_eq] at c0 c1
  simp only [waggonerlaw10_ChangeApart.j0]
  rw [if_neg (by decide), change_Write.tells (by omega) (by omega) hn.1 hn.2, Option.bind_some, change_Write.tells (by omega) (by omega) hn'.1 hn'.2, Option.bind_some]
  simp only [waggonerlaw10_ChangeApart.j1]
  by_cases ho : Pl.chOk k a n i d (l.map toE) = true
  rotate_left
  · rw [Pl.chwriteS, if_neg ho, if_neg (by decide), if_pos trivial]
  rw [Pl.chwriteS, if_pos ho, if_pos rfl]
  by_cases ho' : Pl.chOk k' a' n' i' d' (l'.map toE) = true
  rotate_left
  · rw [Pl.chwriteS, if_neg ho', if_pos (by decide)]
  rw [Pl.chwriteS, if_pos ho']
  dsimp only
  rw [if_neg (show ¬ ((0 : Int) != 0) = true by decide)]
  have hby := Pl.chW_byte (k := k) (a := a) (n := n) (i := i) hd (chg_data hld) (Pl.chOk_all ho)
  have hby' := Pl.chW_byte (k := k') (a := a') (n := n') (i := i') hd' (chg_data hld') (Pl.chOk_all ho')
  have hle := Pl.chW_le ho
  have q0 := Int.tmod_eq_emod_of_nonneg (a := u) (b := ((Pl.chW k a n i d (l.map toE)).length : Int)) hu.1
  have q1 := Int.emod_nonneg u (show ((Pl.chW k a n i d (l.map toE)).length : Int) ≠ 0 by omega)
  have q2 := Int.emod_lt_of_pos u (show (0 : Int) < ((Pl.chW k a n i d (l.map toE)).length : Int) by omega)
  rw [if_neg (by omega), if_neg (by omega), show wrap64 u = u by unfold wrap64; omega, q0, if_pos q1, if_pos (by omega), chg_read (Pl.byteB_take hby _) (by rw [List.length_take]; omega) (Pl.chread_short ho hby (by omega)), Option.bind_some, Option.bind_some, List.nil_append, if_pos (by rw [List.length_nil]; omega), Option.bind_some, if_pos (by omega), chg_read (by rw [Pl.byteB_append, hby]; rfl) (by rw [List.length_append, List.length_singleton]; omega) (Pl.chread_long ho (by rw [Pl.byteB_append, hby]; rfl) (by decide)), Option.bind_some, waggonerref10_Same.tells hd hd' hld hld' (by omega), Option.bind_some, if_pos trivial, Pl.str_eq hby hby', if_pos, if_pos rfl]
  · rfl
  rw [beq_iff_eq, Bool.eq_iff_iff, beq_iff_eq, decide_eq_true_eq]
  constructor
  · intro e
    have h1 := Pl.chreadS_write ho
    rw [e, Pl.chreadS_write ho'] at h1
    simp only [Prod.mk.injEq, and_true] at h1
    obtain ⟨e0, e1, e2, e3, e4, e5⟩ := h1
    exact ⟨e0.symm, e1.symm, e2.symm, e3.symm, e4.symm, e5.symm⟩
  · rintro ⟨rfl, rfl, rfl, rfl, rfl, e⟩
    rw [e]
end Go.Proofs.Ytmgohkffphogdaa.Pure
