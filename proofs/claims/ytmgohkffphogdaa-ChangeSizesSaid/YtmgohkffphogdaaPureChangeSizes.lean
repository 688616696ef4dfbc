/- For any change the law's answer is true: its bytes are as many as it says, and fewer of them are none. -/
import Derived.Test.YtmgohkffphogdaaPSx43
import Derived.Test.YtmgohkffphogdaaChg
import Derived.Test.YtmgohkffphogdaaStr
namespace Go.Proofs.Ytmgohkffphogdaa.Pure
open Go.RowKit Go.Proofs.Ytmgohkffphogdaa.PS Go.Proofs.YtmgohkffphogdaaW.PrintWords Go.Proofs.YtmgohkffphogdaaW.PrintLast
set_option linter.unusedVariables false
theorem chg_data {l : List S39} (h : ∀ s ∈ l, Pl.byteB s.f4 = true) : ∀ e ∈ l.map toE, Pl.byteB e.2.2.2.2 = true := by
  intro e he
  obtain ⟨s, hs, rfl⟩ := List.mem_map.1 he
  exact h s hs
theorem chg_read {b : List Int} (hb : Pl.byteB b = true) (hl : b.length < 1000000000) {k a n i : Int} {d : List Int} {l : List Pl.Ext} {e : Int} (h : Pl.chreadS b = (k, a, n, i, d, l, e)) : change_Read.f b = some (k, a, n, i, d, l.map ofE, e) := by
  rw [change_Read.tells hb hl, h]
theorem sizes_loop {u : Int} {k a n i : Int} {d : List Int} {l : List S39} (hl : l.length ≤ 64) : ∀ (m q j : Nat) (s : Nat), l.length - j = m → j ≤ l.length → m < q → s ≤ 4000 + 3007 * j → (waggonerlaw10_ChangeSizes.l0 q u true (s : Int) (j : Int) k a n i d l = some true) ∨ (waggonerlaw10_ChangeSizes.l0 q u true (s : Int) (j : Int) k a n i d l = waggonerlaw10_ChangeSizes.j2 (q - m - 1) u true ((s + ((l.drop j).map fun e => e.f4.length + 7).sum + (if k = 8 then 1 else 0) : Nat) : Int) k a n i d l)
  | 0, q, j, s, hm, hj, hq, hs => by
    obtain ⟨q, rfl⟩ : ∃ z, q = z + 1 := ⟨q - 1, by omega⟩
    refine .inr ?_
    rw [waggonerlaw10_ChangeSizes.l0, if_neg (by omega), List.drop_of_length_le (by omega), show q + 1 - 0 - 1 = q by omega]
    simp only [List.map_nil, List.sum_nil, Nat.add_zero]
    by_cases k8 : k = 8
    · rw [if_pos k8, if_pos k8, show wrap64 ((s : Int) + 1) = ((s + 1 : Nat) : Int) by unfold wrap64; omega]
    · rw [if_neg k8, if_neg k8]
      rfl
  | m + 1, q, j, s, hm, hj, hq, hs => by
    obtain ⟨q, rfl⟩ : ∃ z, q = z + 1 := ⟨q - 1, by omega⟩
    have hj0 : j < l.length := by omega
    have hlk : rd_T39 l (j : Int) = l[j] := rd_getE l j hj0
    by_cases hb : (l[j].f4.length : Int) > 3000
    · refine .inl ?_
      rw [waggonerlaw10_ChangeSizes.l0, if_pos (by omega), if_pos (by omega), hlk, if_pos hb]
    have e1 : wrap64 ((s : Int) + 7) = ((s + 7 : Nat) : Int) := by unfold wrap64; omega
    have e2 : wrap64 (((s + 7 : Nat) : Int) + (l[j].f4.length : Int)) = ((s + 7 + l[j].f4.length : Nat) : Int) := by unfold wrap64; omega
    have e3 : wrap64 ((j : Int) + 1) = ((j + 1 : Nat) : Int) := by unfold wrap64; omega
    have hstep : waggonerlaw10_ChangeSizes.l0 (q + 1) u true (s : Int) (j : Int) k a n i d l = waggonerlaw10_ChangeSizes.l0 q u true ((s + 7 + l[j].f4.length : Nat) : Int) ((j + 1 : Nat) : Int) k a n i d l := by
      rw [waggonerlaw10_ChangeSizes.l0, if_pos (by omega), if_pos (by omega), hlk, if_neg hb, e1, e2, e3]
    rcases sizes_loop hl m q (j + 1) (s + 7 + l[j].f4.length) (by omega) (by omega) (by omega) (by omega) with h | h
    · exact .inl (hstep.trans h)
    · refine .inr ?_
      rw [hstep, h, List.drop_eq_getElem_cons hj0, List.map_cons, List.sum_cons, show q + 1 - (m + 1) - 1 = q - m - 1 by omega]
      congr 2
      omega
theorem ChangeSizes (k a n i : Int) (d : List Int) (l : List S39) (u : Int) (w0 : (Lit.int .i64 k).wf = true) (w1 : (Lit.int .i64 a).wf = true) (w2 : (Lit.int .i64 n).wf = true) (w3 : (Lit.int .i64 i).wf = true) (wd : ∀ x ∈ d, (Lit.int .u8 x).wf = true) (wl : ∀ s ∈ l, (Lit.int .i64 s.f0).wf = true ∧ (Lit.int .i64 s.f1).wf = true ∧ (Lit.int .i64 s.f2).wf = true ∧ (Lit.int .i64 s.f3).wf = true ∧ (∀ x ∈ s.f4, (Lit.int .u8 x).wf = true)) (wu : (Lit.int .u16 u).wf = true) : ∃ kk, waggonerlaw10_ChangeSizes.f kk k a n i d l u = some true := by
  have hd := Pl.wf_u8 wd
  have hu := Pl.wf_u16 wu
  have hn := Pl.wf_i64 w2
  have hld : ∀ s ∈ l, Pl.byteB s.f4 = true := fun s hs => Pl.wf_u8 (wl s hs).2.2.2.2
  refine ⟨68, ?_⟩
  unfold waggonerlaw10_ChangeSizes.f waggonerlaw10_awake.f
  rw [Option.bind_some]
  have out : waggonerlaw10_ChangeSizes.j0 68 u true true k a n i d l = some true := by
    simp only [waggonerlaw10_ChangeSizes.j0]
    rw [if_pos trivial]
  by_cases c0 : (d.length : Int) > 3000
  · rw [if_pos c0]; exact out
  rw [if_neg c0]
  by_cases c1 : (l.length : Int) > 64
  · rw [decide_eq_true c1]; exact out
  rw [decide_eq_false c1]
  simp only [waggonerlaw10_ChangeSizes.j0]
  rw [if_neg (by decide), show wrap64 (9 + (d.length : Int)) = ((9 + d.length : Nat) : Int) by unfold wrap64; omega]
  rcases sizes_loop (u := u) (k := k) (a := a) (n := n) (i := i) (d := d) (l := l) (by omega) l.length 67 0 (9 + d.length) (by omega) (by omega) (by omega) (by omega) with h | h
  · exact h
  rw [show ((0 : Nat) : Int) = (0 : Int) from rfl] at h
  rw [h, List.drop_zero]
  obtain ⟨q, hq⟩ : ∃ q, 67 - l.length - 1 = q + 1 := ⟨67 - l.length - 2, by omega⟩
  rw [hq]
  simp only [waggonerlaw10_ChangeSizes.j2]
  rw [change_Write.tells (by omega) (by omega) hn.1 hn.2, Option.bind_some]
  by_cases ho : Pl.chOk k a n i d (l.map toE) = true
  rotate_left
  · rw [Pl.chwriteS, if_neg ho, if_neg (by decide), if_pos trivial, if_pos rfl]
    rfl
  have hby := Pl.chW_byte (k := k) (a := a) (n := n) (i := i) hd (chg_data hld) (Pl.chOk_all ho)
  have hle := Pl.chW_le ho
  have hlen := Pl.chW_length k a n i d (l.map toE)
  have hk := (Pl.chOk_lt ho).2.2.2.2.2
  rw [Pl.chwriteS, if_pos ho, if_pos rfl]
  dsimp only
  have hmx : mx 1 ((Pl.chW k a n i d (l.map toE)).length : Int) = ((Pl.chW k a n i d (l.map toE)).length : Int) := by unfold mx; omega
  have q0 := Int.tmod_eq_emod_of_nonneg (a := u) (b := ((Pl.chW k a n i d (l.map toE)).length : Int)) hu.1
  have q1 := Int.emod_nonneg u (show ((Pl.chW k a n i d (l.map toE)).length : Int) ≠ 0 by omega)
  have q2 := Int.emod_lt_of_pos u (show (0 : Int) < ((Pl.chW k a n i d (l.map toE)).length : Int) by omega)
  rw [hmx, if_neg (by omega), show wrap64 u = u by unfold wrap64; omega, q0, if_pos q1, if_pos (by omega), chg_read (Pl.byteB_take hby _) (by rw [List.length_take]; omega) (Pl.chread_short ho hby (by omega)), Option.bind_some, if_pos trivial, if_pos]
  · rfl
  rw [hlen]
  have hsum : ((l.map toE).map fun e : Pl.Ext => e.2.2.2.2.length + 7).sum = (l.map fun e => e.f4.length + 7).sum := by rw [List.map_map]; rfl
  by_cases k8 : k = 8
  · rw [if_pos k8, if_pos k8, hsum]
    omega
  · have hnil : l = [] := List.map_eq_nil_iff.1 (hk k8)
    rw [if_neg k8, if_neg k8, hnil]
    rfl
end Go.Proofs.Ytmgohkffphogdaa.Pure
