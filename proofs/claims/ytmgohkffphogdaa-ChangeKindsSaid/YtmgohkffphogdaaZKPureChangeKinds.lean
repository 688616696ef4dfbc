/- Words and walks that this claim names, of those that the kit's print and programs of this workplace have printed. -/
import Derived.Test.YtmgohkffphogdaaZKPKx46
import Derived.Test.YtmgohkffphogdaaZKChg
import Derived.Test.YtmgohkffphogdaaZKStr
namespace Go.Proofs.Ytmgohkffphogdaa.Pure
open Go.RowKit Go.Proofs.Ytmgohkffphogdaa.PK Go.Proofs.YtmgohkffphogdaaW.PrintWords Go.Proofs.YtmgohkffphogdaaW.PrintLast
set_option linter.unusedVariables false
theorem chg_few (k a n i : Int) (d : List Int) (l : List S39) : waggonerlaw10_Few.f k a n i d l = some (decide (d.length ≤ 5000) && (decide (l.length ≤ 70) && l.all fun s => decide (s.f4.length ≤ 3000))) := by
  unfold waggonerlaw10_Few.f waggonerlaw07_Few.f
  by_cases h : (d.length : Int) ≤ 5000
  · rw [if_pos h, Option.bind_some, decide_eq_true (show d.length ≤ 5000 by omega), Bool.true_and]
  · rw [if_neg h, decide_eq_false (show ¬ d.length ≤ 5000 by omega), Bool.false_and]
theorem chg_data {l : List S39} (h : ∀ s ∈ l, Pl.byteB s.f4 = true) : ∀ e ∈ l.map toE, Pl.byteB e.2.2.2.2 = true := by
  intro e he
  obtain ⟨s, hs, rfl⟩ := List.mem_map.1 he
  exact h s hs
theorem ChangeKinds (k a n i : Int) (d : List Int) (l : List S39) (u : Int) (w0 : (Lit.int .i64 k).wf = true) (w1 : (Lit.int .i64 a).wf = true) (w2 : (Lit.int .i64 n).wf = true) (w3 : (Lit.int .i64 i).wf = true) (wd : ∀ x ∈ d, (Lit.int .u8 x).wf = true) (wl : ∀ s ∈ l, (Lit.int .i64 s.f0).wf = true ∧ (Lit.int .i64 s.f1).wf = true ∧ (Lit.int .i64 s.f2).wf = true ∧ (Lit.int .i64 s.f3).wf = true ∧ (∀ x ∈ s.f4, (Lit.int .u8 x).wf = true)) (wu : (Lit.int .i64 u).wf = true) : ∃ kk, waggonerlaw10_ChangeKinds.f kk k a n i d l u = some true := by
  have hd := Pl.wf_u8 wd
  have hn := Pl.wf_i64 w2
  have hld : ∀ s ∈ l, Pl.byteB s.f4 = true := fun s hs => Pl.wf_u8 (wl s hs).2.2.2.2
  refine ⟨1, ?_⟩
  unfold waggonerlaw10_ChangeKinds.f waggonerlaw10_awake.f
  rw [Option.bind_some, chg_few, Option.bind_some]
  have out : waggonerlaw10_ChangeKinds.j0 1 u true true k a n i d l = some true := by
    simp only [waggonerlaw10_ChangeKinds.j0]
    rw [if_pos trivial]
  by_cases c0 : (decide (d.length ≤ 5000) && (decide (l.length ≤ 70) && l.all fun s => decide (s.f4.length ≤ 3000))) = true
  rotate_left
  · rw [if_neg c0]; exact out
  rw [if_pos c0]
  rw [Bool.and_eq_true, Bool.and_eq_true, decide_eq_true_eq, decide_eq_true_eq] at c0
  rw [change_Check.tells (by omega) (by omega) hn.1 hn.2, Option.bind_some]
  by_cases ho : Pl.chOk k a n i d (l.map toE) = true
  rotate_left
  · rw [if_neg ho]; exact out
  rw [if_pos ho]
  by_cases hu : u = k
  · rw [show (u == k) = true from beq_iff_eq.2 hu]; exact out
  rw [show (u == k) = false from beq_eq_false_iff_ne.2 hu]
  simp only [waggonerlaw10_ChangeKinds.j0]
  rw [if_neg (by decide), change_Write.tells (by omega) (by omega) hn.1 hn.2, Option.bind_some, change_Write.tells (by omega) (by omega) hn.1 hn.2, Option.bind_some, if_pos trivial, change_Check.tells (by omega) (by omega) hn.1 hn.2, Pl.chwriteS, if_pos ho, if_pos rfl]
  by_cases ho' : Pl.chOk u a n i d (l.map toE) = true
  · have hby := Pl.chW_byte (k := k) (a := a) (n := n) (i := i) hd (chg_data hld) (Pl.chOk_all ho)
    have hby' := Pl.chW_byte (k := u) (a := a) (n := n) (i := i) hd (chg_data hld) (Pl.chOk_all ho')
    have hne : Pl.chW k a n i d (l.map toE) ≠ Pl.chW u a n i d (l.map toE) := fun e => by
      have h1 := Pl.chreadS_write ho
      rw [e, Pl.chreadS_write ho'] at h1
      injection h1 with h1 _
      exact hu h1
    have hs : ¬ (strOfNums (Pl.chW k a n i d (l.map toE))).toList = (strOfNums (Pl.chW u a n i d (l.map toE))).toList := fun e => by
      have := Pl.str_eq hby hby'
      rw [beq_iff_eq.2 e] at this
      exact hne (beq_iff_eq.1 this.symm)
    have h8 := (Pl.chOk_iff.1 ho').1
    rw [Pl.chwriteS, if_pos ho', if_pos rfl, if_neg hs, Option.bind_some, ho', if_pos (by rfl), if_pos (by omega), if_pos (by omega)]
  · rw [Pl.chwriteS, if_neg ho', if_neg (by decide), Option.bind_some, Bool.eq_false_iff.2 ho', if_pos (by rfl)]
    by_cases h1 : u ≥ 1
    · rw [if_pos h1]
      by_cases h8 : u ≤ 8
      · rw [if_pos h8]
      · rw [if_neg h8]; rfl
    · rw [if_neg h1]; rfl
end Go.Proofs.Ytmgohkffphogdaa.Pure
