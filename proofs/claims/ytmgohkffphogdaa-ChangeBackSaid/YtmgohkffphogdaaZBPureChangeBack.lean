/- Words and walks that this claim names, of those that the kit's print and programs of this workplace have printed. -/
import Derived.Test.YtmgohkffphogdaaZBPBx47
import Derived.Test.YtmgohkffphogdaaZBChg
import Derived.Test.YtmgohkffphogdaaZBStr
namespace Go.Proofs.Ytmgohkffphogdaa.Pure
open Go.RowKit Go.Proofs.Ytmgohkffphogdaa.PB Go.Proofs.YtmgohkffphogdaaW.PrintWords Go.Proofs.YtmgohkffphogdaaW.PrintLast
set_option linter.unusedVariables false
theorem chg_few (k a n i : Int) (d : List Int) (l : List S39) : waggonerlaw10_Few.f k a n i d l = some (decide (d.length ≤ 5000) && (decide (l.length ≤ 70) && l.all fun s => decide (s.f4.length ≤ 3000))) := by
  unfold waggonerlaw10_Few.f waggonerlaw07_Few.f
  by_cases h : (d.length : Int) ≤ 5000
  · rw [if_pos h, Option.bind_some, decide_eq_true (show d.length ≤ 5000 by omega), Bool.true_and]
  · rw [if_neg h, decide_eq_false (show ¬ d.length ≤ 5000 by omega), Bool.false_and]
theorem chg_data {l : List S39} (h : ∀ s ∈ l, Pl.byteB s.f4 = true) : ∀ e ∈ l.map toE, Pl.byteB e.2.2.2.2 = true := by
  intro e he
  obtain ⟨s, hs, rfl⟩ := List.mem_map.1 he
  exact h s hs
theorem chg_read {b : List Int} (hb : Pl.byteB b = true) (hl : b.length < 1000000000) {k a n i : Int} {d : List Int} {l : List Pl.Ext} {e : Int} (h : Pl.chreadS b = (k, a, n, i, d, l, e)) : change_Read.f b = some (k, a, n, i, d, l.map ofE, e) := by
  rw [change_Read.tells hb hl, h]
theorem ChangeBack (k a n i : Int) (d : List Int) (l : List S39) (b : List Int) (w0 : (Lit.int .i64 k).wf = true) (w1 : (Lit.int .i64 a).wf = true) (w2 : (Lit.int .i64 n).wf = true) (w3 : (Lit.int .i64 i).wf = true) (wd : ∀ x ∈ d, (Lit.int .u8 x).wf = true) (wl : ∀ s ∈ l, (Lit.int .i64 s.f0).wf = true ∧ (Lit.int .i64 s.f1).wf = true ∧ (Lit.int .i64 s.f2).wf = true ∧ (Lit.int .i64 s.f3).wf = true ∧ (∀ x ∈ s.f4, (Lit.int .u8 x).wf = true)) (wb : ∀ x ∈ b, (Lit.int .u8 x).wf = true) : ∃ kk, waggonerlaw10_ChangeBack.f kk k a n i d l b = some true := by
  have hd := Pl.wf_u8 wd
  have hb := Pl.wf_u8 wb
  have hn := Pl.wf_i64 w2
  have hld : ∀ s ∈ l, Pl.byteB s.f4 = true := fun s hs => Pl.wf_u8 (wl s hs).2.2.2.2
  refine ⟨2, ?_⟩
  unfold waggonerlaw10_ChangeBack.f waggonerlaw10_awake.f
  rw [Option.bind_some, chg_few, Option.bind_some]
  have out : waggonerlaw10_ChangeBack.j0 2 b true true k a n i d l = some true := by
    simp only [waggonerlaw10_ChangeBack.j0]
    rw [if_pos trivial]
  by_cases c0 : (decide (d.length ≤ 5000) && (decide (l.length ≤ 70) && l.all fun s => decide (s.f4.length ≤ 3000))) = true
  rotate_left
  · rw [if_neg c0]; exact out
  rw [if_pos c0]
  by_cases c1 : (b.length : Int) > 5000
  · rw [decide_eq_true c1]; exact out
  rw [decide_eq_false c1]
  rw [Bool.and_eq_true, Bool.and_eq_true, decide_eq_true_eq, decide_eq_true_eq] at c0
  have hj : waggonerlaw10_ChangeBack.j1 1 b true false = some true := by
    simp only [waggonerlaw10_ChangeBack.j1]
    rw [if_neg (by decide)]
    rcases Pl.chreadS_cases hb with ⟨k', a', n', i', d', l', h', e, hr⟩ | ⟨-, hr⟩
    · obtain ⟨hk, ha, hn, hi, hd, hl⟩ := Pl.chOk_lt h'
      have hl64 := (Pl.eAll_iff.1 (Pl.chOk_all h')).1
      rw [chg_read hb (by omega) hr, Option.bind_some]
      dsimp only
      rw [change_Write.tells (by rw [List.length_map]; omega) (by omega) (by omega) (by omega), Option.bind_some, if_pos trivial, if_pos rfl, change_Check.tells (by rw [List.length_map]; omega) (by omega) (by omega) (by omega), map_toE_ofE, Option.bind_some, if_pos h', Pl.chwriteS, if_pos h', if_pos rfl, ← e]
      simp
    · rw [chg_read hb (by omega) hr, Option.bind_some]
      dsimp only [List.map_nil]
      rw [change_Write.tells (by decide) (by decide) (by decide) (by decide), Option.bind_some, if_pos trivial, if_neg (by decide), if_pos rfl]
  simp only [waggonerlaw10_ChangeBack.j0]
  rw [if_neg (by decide), change_Write.tells (by omega) (by omega) hn.1 hn.2, Option.bind_some, change_Check.tells (by omega) (by omega) hn.1 hn.2]
  by_cases ho : Pl.chOk k a n i d (l.map toE) = true
  · have hby := Pl.chW_byte (k := k) (a := a) (n := n) (i := i) hd (chg_data hld) (Pl.chOk_all ho)
    have hle := Pl.chW_le ho
    rw [Pl.chwriteS, if_pos ho]
    dsimp only
    rw [chg_read hby (by omega) (Pl.chreadS_write ho), Option.bind_some]
    dsimp only
    rw [if_pos rfl, if_pos rfl, map_ofE_toE, waggonerref10_Same.tells hd hd hld hld (by omega), Option.bind_some, decide_eq_true (by simp), if_pos rfl]
    unfold record_Size.f
    split
    · exfalso; omega
    · split
      · exfalso; omega
      · rw [Option.bind_some, if_neg (by unfold wrap64; omega)]
        exact hj
  · rw [Pl.chwriteS, if_neg ho]
    dsimp only
    rw [chg_read (b := []) rfl (by decide) (show Pl.chreadS [] = Pl.chBad from rfl), Option.bind_some, if_neg (by decide), if_neg (by decide), Option.bind_some, Bool.eq_false_iff.2 ho]
    exact hj
end Go.Proofs.Ytmgohkffphogdaa.Pure
