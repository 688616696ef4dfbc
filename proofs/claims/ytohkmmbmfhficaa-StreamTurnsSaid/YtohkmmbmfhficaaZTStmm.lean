/- Words and walks that this claim names, of those that the kit's print and programs of this workplace have printed. -/
import Derived.Test.YtohkmmbmfhficaaZTStml
set_option linter.unusedVariables false
namespace Go.Proofs.Ytohkmmbmfhficaa.Pl
theorem stH_ok {B P T : Int} (h : 1 ≤ B ∧ B ≤ 64 ∧ 1 ≤ T ∧ T ≤ 2147483647 ∧ 0 ≤ P ∧ P < T) : frOkT (stH B P T) = true := by
  show frOk 1 0 0 [] B P T = true
  rw [frOk_1, decide_eq_true_eq]
  exact ⟨rfl, rfl, rfl, by omega⟩
theorem exsF_length (B : Int) : ∀ (L : List Ext) (p : Option Ext), stGo B p L = true → ((exsF L).length : Int) ≤ (L.map fun x => x.2.1).sum
  | [], p, h => by rw [exsF]; exact Int.le_refl _
  | x :: L, p, h => by
    rw [stGo_cons, Bool.and_eq_true] at h
    have ih := exsF_length B L (some x) h.2
    have hx := stOne_len h.1
    have h1 : ((exF x).length : Int) ≤ x.2.1 := by
      rw [exF]
      split
      ·rw [chunks_length x.2.1.toNat _ _ _ (Nat.le_refl _) (by omega)]; omega
      rw [List.length_singleton]; omega
    rw [exsF, List.length_append, List.map_cons, List.sum_cons]
    push_cast
    omega
def exN (x : Ext) : Int := if x.2.2.1 = 2 then 9 * ((x.2.1 + 15) / 16) + 32 * x.2.1 else 9
theorem exF_bytes {p : Option Ext} {x : Ext} (h : stOne p x = true) : ((fsB (exF x)).length : Int) = exN x := by
  obtain ⟨a, n, k, g, d⟩ := x
  obtain ⟨ho, -, -, -⟩ := stOne_iff.1 h
  have q := extOk_iff.1 (show extOk a n k g d = true from ho)
  rw [exF, exN]
  dsimp only
  by_cases hk : k = 2
  ·rw [if_pos hk] at q ⊢
   rw [if_pos hk, chunks_bytes n.toNat _ _ _ (Nat.le_refl _) (by omega) (by omega)]
  rw [if_neg hk] at q ⊢
  rw [if_neg hk, fsB, fsB, List.append_nil, frWT, frW_length, frT_length]
  dsimp only
  rw [if_neg (by omega), if_neg (by omega)]
  omega
theorem exsF_bytes (B : Int) : ∀ (L : List Ext) (p : Option Ext), stGo B p L = true → ((fsB (exsF L)).length : Int) = (L.map exN).sum
  | [], p, h => rfl
  | x :: L, p, h => by
    rw [stGo_cons, Bool.and_eq_true] at h
    have ih := exsF_bytes B L (some x) h.2
    rw [exsF, fsB_append, List.length_append, List.map_cons, List.sum_cons, ← ih, ← exF_bytes h.1]
    push_cast
    rfl
theorem exN_le (B : Int) : ∀ (L : List Ext) (p : Option Ext), stGo B p L = true → 0 ≤ (L.map exN).sum ∧ (L.map exN).sum ≤ 41 * (L.map fun x => x.2.1).sum
  | [], p, h => ⟨Int.le_refl _, Int.le_refl _⟩
  | x :: L, p, h => by
    rw [stGo_cons, Bool.and_eq_true] at h
    have ih := exN_le B L (some x) h.2
    have hx := stOne_len h.1
    have h1 : 0 ≤ exN x ∧ exN x ≤ 41 * x.2.1 := by rw [exN]; split <;> omega
    rw [List.map_cons, List.sum_cons, List.map_cons, List.sum_cons]
    omega
theorem frWT_head (B P T : Int) : (frWT (stH B P T)).length = 16 := by rw [frWT, stH]; dsimp only; rw [frW_length, frT_length, if_pos rfl]
theorem frWT_end (m : Nat) (b : List Int) : (frWT (stE m b)).length = 13 := by rw [frWT, stE]; dsimp only; rw [frW_length, frT_length, if_neg (by decide), if_pos rfl]
theorem stW_length {B P T : Int} {L : List Ext} (h : stOk B P T L = true) : ((stW B P T L).length : Int) = 29 + (L.map exN).sum ∧ (stW B P T L).length ≤ 4000 := by
  obtain ⟨h1, h2⟩ := stOk_iff.1 h
  have e := exsF_bytes B L none h2
  have l := exN_le B L none h2
  have c := (stGo_count B L none h2 (by omega)).1
  dsimp only at c
  have : ((stW B P T L).length : Int) = 29 + (L.map exN).sum := by
    rw [stW, List.length_append, frWT_end, stF, fsB, List.length_append, frWT_head]
    push_cast
    omega
  exact ⟨this, by omega⟩
theorem stF_length {B P T : Int} {L : List Ext} (h : stOk B P T L = true) : 1 ≤ (stF B P T L).length ∧ (stF B P T L).length ≤ 65 := by
  obtain ⟨h1, h2⟩ := stOk_iff.1 h
  have e := exsF_length B L none h2
  have c := (stGo_count B L none h2 (by omega)).1
  dsimp only at c
  rw [stF, List.length_cons]
  omega
theorem stF_ok {B P T : Int} {L : List Ext} (h : stOk B P T L = true) : ∀ f ∈ stF B P T L, frOkT f = true ∧ f.1 ≠ 5 := by
  obtain ⟨h1, h2⟩ := stOk_iff.1 h
  intro f hf
  rcases List.mem_cons.1 hf with rfl | hf
  ·exact ⟨stH_ok h1, show (1 : Int) ≠ 5 by decide⟩
  obtain ⟨q1, q2⟩ := exsF_ok B L none h2 f hf
  exact ⟨q1, by omega⟩
theorem exF_byte {x : Ext} (h : byteB x.2.2.2.2 = true) : ∀ f ∈ exF x, byteB f.2.2.2.1 = true := by
  have ch : ∀ (k : Nat) (a n : Int) (d : List Int), n.toNat ≤ k → byteB d = true → ∀ f ∈ chunks a n d, byteB f.2.2.2.1 = true := by
    intro k
    induction k with
    | zero =>
      intro a n d hk hd f hf
      rw [chunks_last (by omega)] at hf
      obtain rfl := List.mem_singleton.1 hf
      exact hd
    | succ k ih =>
      intro a n d hk hd f hf
      by_cases h : 16 < n
      ·rw [chunks_far h] at hf
       rcases List.mem_cons.1 hf with rfl | hf
       ·exact byteB_take hd _
       exact ih (a + 16) (n - 16) (d.drop 512) (by omega) (byteB_drop hd _) f hf
      rw [chunks_last h] at hf
      obtain rfl := List.mem_singleton.1 hf
      exact hd
  intro f hf
  rw [exF] at hf
  split at hf
  ·exact ch _ _ _ _ (Nat.le_refl _) h f hf
  obtain rfl := List.mem_singleton.1 hf
  exact h
theorem exsF_byte : ∀ {L : List Ext}, (∀ x ∈ L, byteB x.2.2.2.2 = true) → ∀ f ∈ exsF L, byteB f.2.2.2.1 = true
  | [], _ => fun f hf => absurd hf List.not_mem_nil
  | x :: L, h => fun f hf => by
    rw [exsF] at hf
    rcases List.mem_append.1 hf with hf | hf
    ·exact exF_byte (h x List.mem_cons_self) f hf
    exact exsF_byte (fun y hy => h y (List.mem_cons_of_mem _ hy)) f hf
theorem stF_byte {B P T : Int} {L : List Ext} (h : ∀ x ∈ L, byteB x.2.2.2.2 = true) : byteB (fsB (stF B P T L)) = true := fsB_byte fun f hf => by
  rcases List.mem_cons.1 hf with rfl | hf
  · rfl
  · exact exsF_byte h f hf
theorem stW_byte {B P T : Int} {L : List Ext} (h : ∀ x ∈ L, byteB x.2.2.2.2 = true) : byteB (stW B P T L) = true := by
  rw [stW, byteB_append, stF_byte h, frWT, frW_byte (show byteB (stE _ _).2.2.2.1 = true from rfl)]; rfl
theorem stE_ok {B P T : Int} {L : List Ext} (h : stOk B P T L = true) (hb : ∀ x ∈ L, byteB x.2.2.2.2 = true) : frOkT (stE (stF B P T L).length (fsB (stF B P T L))) = true := by
  have hl := stF_length h
  have hs := sum_lt (byteB_bytes (stF_byte (B := B) (P := P) (T := T) hb))
  rw [frOkT, stE]
  dsimp only
  rw [frOk_5, decide_eq_true_eq]
  exact ⟨rfl, rfl, rfl, by omega, by omega, by omega, by omega, rfl⟩
theorem stF_advs {B P T : Int} {L : List Ext} (h : stOk B P T L = true) : advs stZ 0 (stF B P T L) = some (B, P, T, L) := by
  obtain ⟨h1, h2⟩ := stOk_iff.1 h
  rw [stF, advs, adv, if_neg (fun e => e ⟨fun _ => rfl, fun _ => rfl⟩), if_pos (show (stH B P T).1 = 1 from rfl), Option.bind_some, advs_steps _ _ 1 (by decide) (fun f hf => by have := exsF_ok B L none h2 f hf; omega)]
  show (steps B [] (exsF L)).map _ = _
  rw [steps_exsF L [] h2]
  rfl
theorem beginS_write {B P T : Int} {L : List Ext} (h : stOk B P T L = true) (hb : ∀ x ∈ L, byteB x.2.2.2.2 = true) (r : List Int) (hr : (stW B P T L ++ r).length ≤ 4000) : beginS (stW B P T L ++ r) = if r = [] then ((B, P, T, L), 0) else (stZ, 170) := by
  have he := stE_ok h hb
  have hl := stF_length h
  have hlen : (stF B P T L).length ≤ (fsB (stF B P T L)).length := by
    have : ∀ l : List Frm, l.length ≤ (fsB l).length := by
      intro l
      induction l with
      | nil => exact Nat.le_refl _
      | cons f l ih => rw [fsB, List.length_append, List.length_cons, frWT, frW_length]; omega
    exact this _
  have hL : (stW B P T L ++ r).length = (fsB (stF B P T L)).length + 13 + r.length := by rw [List.length_append, stW, List.length_append, frWT_end]
  rw [beginS, if_neg (by omega), begL_fuel _ ((stW B P T L ++ r).length + 1 + (stF B P T L).length) _ _ _ _ (by omega) (by omega), stW, List.append_assoc, begL_frames _ _ _ _ _ _ (stF_ok h), stF_advs h]
  dsimp only
  rw [← List.append_assoc, ← stW, List.nil_append, show (frWT (stE (stF B P T L).length (fsB (stF B P T L)))) = frW 5 0 0 [] ((stF B P T L).length : Int) ((sum (nats (fsB (stF B P T L))) : Nat) : Int) 0 from rfl]
  rw [begL_end _ (show frOk 5 0 0 [] ((stF B P T L).length : Int) ((sum (nats (fsB (stF B P T L))) : Nat) : Int) 0 = true from he), Nat.zero_add]
  by_cases hrn : r = []
  ·rw [if_pos ⟨by omega, rfl, rfl, hrn⟩, if_pos hrn]
  rw [if_neg (fun e => hrn e.2.2.2), if_neg hrn]
theorem sreadS_write {B P T : Int} {L : List Ext} (h : stOk B P T L = true) (hb : ∀ x ∈ L, byteB x.2.2.2.2 = true) : sreadS (stW B P T L) = ((B, P, T, L), 0) := by
  have := beginS_write h hb [] (by rw [List.append_nil]; exact (stW_length h).2)
  rw [List.append_nil, if_pos rfl] at this
  rw [sreadS, this, if_pos rfl]
theorem fsB_take : ∀ (l : List Frm) (j : Nat), j < (fsB l).length → ∃ i f m, i < l.length ∧ l[i]? = some f ∧ m < (frWT f).length ∧ (fsB l).take j = fsB (l.take i) ++ (frWT f).take m ∧ j = (fsB (l.take i)).length + m
  | [], j, h => absurd h (Nat.not_lt_zero _)
  | f :: l, j, h => by
    rw [fsB, List.length_append] at h
    by_cases hj : j < (frWT f).length
    ·exact ⟨0, f, j, Nat.zero_lt_succ _, rfl, hj, by rw [fsB, List.take_append_of_le_length (Nat.le_of_lt hj), List.take_zero, fsB, List.nil_append], by rw [List.take_zero, fsB, List.length_nil, Nat.zero_add]⟩
    obtain ⟨i, g, m, h1, h2, h3, h4, h5⟩ := fsB_take l (j - (frWT f).length) (by omega)
    refine ⟨i + 1, g, m, by rw [List.length_cons]; omega, by rw [List.getElem?_cons_succ]; exact h2, h3, ?_, ?_⟩
    ·rw [fsB, List.take_append, List.take_of_length_le (by omega), h4, List.take_succ_cons, fsB, List.append_assoc]
    ·rw [List.take_succ_cons, fsB, List.length_append]; omega
theorem beginS_take {B P T : Int} {L : List Ext} (h : stOk B P T L = true) (hb : ∀ x ∈ L, byteB x.2.2.2.2 = true) {j : Nat} (hj : j < (stW B P T L).length) :
    ∃ i t, i ≤ (stF B P T L).length ∧ advs stZ 0 ((stF B P T L).take i) = some t ∧ beginS ((stW B P T L).take j) = (t, 161) ∧ (fsB ((stF B P T L).take i)).length ≤ j ∧ (i < (stF B P T L).length → j < (fsB ((stF B P T L).take (i + 1))).length) := by
  have he := stE_ok h hb
  obtain ⟨E, hE⟩ : ∃ E, E = stE (stF B P T L).length (fsB (stF B P T L)) := ⟨_, rfl⟩
  rw [← hE] at he
  have hw : stW B P T L = fsB (stF B P T L ++ [E]) := by rw [fsB_snoc, hE]; rfl
  rw [hw] at hj ⊢
  obtain ⟨i, f, m, h1, h2, h3, h4, h5⟩ := fsB_take _ j hj
  rw [List.length_append, List.length_singleton] at h1
  have hi : i ≤ (stF B P T L).length := by omega
  have ht : (stF B P T L ++ [E]).take i = (stF B P T L).take i := by rw [List.take_append_of_le_length hi]
  have hf : frOkT f = true := by
    have hm := List.mem_of_getElem? h2
    rcases List.mem_append.1 hm with hm | hm
    ·exact (stF_ok h f hm).1
    rw [List.mem_singleton.1 hm]; exact he
  have hok : ∀ g ∈ (stF B P T L).take i, frOkT g = true ∧ g.1 ≠ 5 := fun g hg => stF_ok h g (List.mem_of_mem_take hg)
  obtain ⟨t, hadv⟩ : ∃ t, advs stZ 0 ((stF B P T L).take i) = some t := by
    have := stF_advs h
    rw [← List.take_append_drop i (stF B P T L), advs_append] at this
    rcases hh : advs stZ 0 ((stF B P T L).take i) with _ | t
    ·rw [hh] at this; cases this
    exact ⟨t, rfl⟩
  have h0 := (stW_length h).2
  rw [hw] at h0
  refine ⟨i, t, hi, hadv, ?_, by rw [← ht]; omega, fun hlt => ?_⟩
  ·have hl : ((fsB (stF B P T L ++ [E])).take j).length = j := by rw [List.length_take]; omega
   rw [beginS, hl, if_neg (by omega)]
   have hc : ((stF B P T L).take i).length ≤ j := by
     have : ∀ l : List Frm, l.length ≤ (fsB l).length := by
       intro l
       induction l with
       | nil => exact Nat.le_refl _
       | cons f l ih => rw [fsB, List.length_append, List.length_cons, frWT, frW_length]; omega
     have := this ((stF B P T L).take i)
     rw [ht] at h5
     omega
   rw [begL_fuel _ (j + 1 + ((stF B P T L).take i).length) _ _ _ _ (by omega) (by omega), h4, ht, begL_frames _ _ _ _ _ _ hok, hadv]
   dsimp only
   obtain ⟨k0, a, n, d, A, B', C⟩ := f
   have := freadS_short (show frOk k0 a n d A B' C = true from hf) (show m < (frW k0 a n d A B' C).length from h3)
   rw [show j + 1 = (j : Nat) + 1 from rfl, begL, show frWT (k0, a, n, d, A, B', C) = frW k0 a n d A B' C from rfl, this, if_pos rfl]
  ·have e : (stF B P T L).take (i + 1) = (stF B P T L).take i ++ [f] := by
     rw [List.getElem?_append_left hlt] at h2
     rw [List.take_add_one, h2]; rfl
   rw [e, fsB_snoc, List.length_append, ← ht]
   omega
theorem beginS_turned {B P T : Int} {L : List Ext} (h : stOk B P T L = true) {i : Nat} (hi : i ≤ (stF B P T L).length) {z : List Int} (hz : freadS z = (frZ, 0, 160)) (hl : (fsB ((stF B P T L).take i) ++ z).length ≤ 4000) : beginS (fsB ((stF B P T L).take i) ++ z) = (stZ, 170) := by
  obtain ⟨t, hadv⟩ : ∃ t, advs stZ 0 ((stF B P T L).take i) = some t := by
    have := stF_advs h
    rw [← List.take_append_drop i (stF B P T L), advs_append] at this
    rcases hh : advs stZ 0 ((stF B P T L).take i) with _ | t
    ·rw [hh] at this; cases this
    exact ⟨t, rfl⟩
  have hc : ((stF B P T L).take i).length ≤ (fsB ((stF B P T L).take i)).length := by
    have : ∀ l : List Frm, l.length ≤ (fsB l).length := by
      intro l
      induction l with
      | nil => exact Nat.le_refl _
      | cons f l ih => rw [fsB, List.length_append, List.length_cons, frWT, frW_length]; omega
    exact this _
  have hL : (fsB ((stF B P T L).take i) ++ z).length = (fsB ((stF B P T L).take i)).length + z.length := List.length_append
  rw [beginS, if_neg (by omega), begL_fuel _ ((fsB ((stF B P T L).take i) ++ z).length + 1 + ((stF B P T L).take i).length) _ _ _ _ (by omega) (by omega), begL_frames _ _ _ _ _ _ (fun f hf => stF_ok h f (List.mem_of_mem_take hf)), hadv]
  dsimp only
  rw [begL, hz, if_neg (by decide), if_pos (by decide)]
end Go.Proofs.Ytohkmmbmfhficaa.Pl
