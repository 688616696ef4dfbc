/- Words and walks that this claim names, of those that the kit's print and programs of this workplace have printed. -/
import Derived.Test.YtohkmmbmfhficaaZOPOx75
import Derived.Test.YtohkmmbmfhficaaZOStmm
import Derived.Test.YtohkmmbmfhficaaZOStr
namespace Go.Proofs.Ytohkmmbmfhficaa.Pure
open Go Go.RowKit Go.Proofs.Ytohkmmbmfhficaa.PO Go.Proofs.YtohkmmbmfhficaaW.PrintWords Go.Proofs.YtohkmmbmfhficaaW.PrintLast
set_option linter.unusedVariables false
theorem stm_begin {b : List Int} (hb : Pl.byteB b = true) (hl : b.length < 1000000000) {B P T e : Int} {L : List Pl.Ext} (h : Pl.beginS b = ((B, P, T, L), e)) : stream_Begin.f b = some (B, P, T, L.map ofE, e) := by
  rw [stream_Begin.tells hb hl, h]
theorem stm_awake : waggonerlaw17_awake.f = some true := rfl
theorem stm_few (B P T : Int) (l : List S36) : waggonerlaw17_few.f B P T l = some (decide (l.length ≤ 70) && l.all fun s => decide (s.f4.length ≤ 3000)) := by
  unfold waggonerlaw17_few.f waggonerlaw07_Few.f
  rw [Option.bind_some]
theorem stm_data {l : List S36} (h : ∀ s ∈ l, Pl.byteB s.f4 = true) : ∀ e ∈ l.map toE, Pl.byteB e.2.2.2.2 = true := by
  intro e he
  obtain ⟨s, hs, rfl⟩ := List.mem_map.1 he
  exact h s hs
theorem fsB_mono (l : List Pl.Frm) {i j : Nat} (h : i ≤ j) : (Pl.fsB (l.take i)).length ≤ (Pl.fsB (l.take j)).length := by
  have e : l.take j = l.take i ++ (l.take j).drop i := by
    conv => lhs; rw [← List.take_append_drop i (l.take j), List.take_take, Nat.min_eq_left h]
  rw [e, Pl.fsB_append, List.length_append]
  exact Nat.le_add_right _ _
theorem mn_mx {n m : Int} {k : Nat} (h1 : 0 ≤ n) (h2 : n < k) (h3 : 0 ≤ m) (h4 : m < k) : ∃ p q : Nat, mn n m = p ∧ mx n m = q ∧ p ≤ q ∧ q < k := by
  obtain ⟨a, rfl⟩ := Int.eq_ofNat_of_zero_le h1
  obtain ⟨b, rfl⟩ := Int.eq_ofNat_of_zero_le h3
  by_cases c : (a : Int) < b
  · exact ⟨a, b, by rw [mn, if_neg (by omega)], by rw [mx, if_pos c], by omega, by omega⟩
  · by_cases c2 : (b : Int) < a
    · exact ⟨b, a, by rw [mn, if_pos c2], by rw [mx, if_neg c], by omega, by omega⟩
    · exact ⟨a, a, by rw [mn, if_neg c2], by rw [mx, if_neg c], by omega, by omega⟩
theorem grows {B P T : Int} {L : List Pl.Ext} (h : Pl.stOk B P T L = true) (hb : ∀ x ∈ L, Pl.byteB x.2.2.2.2 = true) {p q : Nat} (hpq : p ≤ q) (hq : q < (Pl.stW B P T L).length) :
    ∃ s t, Pl.beginS ((Pl.stW B P T L).take p) = (s, 161) ∧ Pl.beginS ((Pl.stW B P T L).take q) = (t, 161) ∧ s.2.2.2.length ≤ t.2.2.2.length ∧ t.2.2.2.length ≤ L.length ∧ ((s.1 = 0 ∧ s.2.2.1 = 0 ∧ (t.1 = 0 ∨ t.1 = B ∧ t.2.2.1 = T)) ∨ (s.1 = B ∧ s.2.1 = P ∧ s.2.2.1 = T ∧ t.1 = B ∧ t.2.1 = P ∧ t.2.2.1 = T)) := by
  obtain ⟨i, s, hi, hs, bs, li, ui⟩ := Pl.beginS_take h hb (Nat.lt_of_le_of_lt hpq hq)
  obtain ⟨j, t, hj, ht, bt, lj, uj⟩ := Pl.beginS_take h hb hq
  have hij : i ≤ j := by
    rcases Nat.lt_or_ge j i with c | c
    · have h1 := uj (by omega)
      have h2 := fsB_mono (Pl.stF B P T L) (show j + 1 ≤ i from c)
      omega
    · exact c
  have hm := Pl.advs_mono h hij hj hs ht
  refine ⟨s, t, bs, bt, hm.1, hm.2, ?_⟩
  rcases Pl.advs_take h hi hs with ⟨_, rfl⟩ | ⟨i0, M, rfl, _, _⟩
  · refine .inl ⟨rfl, rfl, ?_⟩
    rcases Pl.advs_take h hj ht with ⟨_, rfl⟩ | ⟨_, M, rfl, _, _⟩
    · exact .inl rfl
    · exact .inr ⟨rfl, rfl⟩
  · rcases Pl.advs_take h hj ht with ⟨j0, _⟩ | ⟨_, M', rfl, _, _⟩
    · omega
    · exact .inr ⟨rfl, rfl, rfl, rfl, rfl, rfl⟩
theorem StreamGrows (B P T : Int) (l : List S36) (a : Int) (b : Int) (w0 : (Lit.int .i64 B).wf = true) (w1 : (Lit.int .i64 P).wf = true) (w2 : (Lit.int .i64 T).wf = true) (wl : ∀ s ∈ l, (Lit.int .i64 s.f0).wf = true ∧ (Lit.int .i64 s.f1).wf = true ∧ (Lit.int .i64 s.f2).wf = true ∧ (Lit.int .i64 s.f3).wf = true ∧ (∀ x ∈ s.f4, (Lit.int .u8 x).wf = true)) (wa : (Lit.int .u16 a).wf = true) (wb : (Lit.int .u16 b).wf = true) : ∃ kk, waggonerlaw17_StreamGrows.f kk B P T l a b = some true := by
  have hld : ∀ s ∈ l, Pl.byteB s.f4 = true := fun s hs => Pl.wf_u8 (wl s hs).2.2.2.2
  have ha := Pl.wf_u16 wa
  have hb := Pl.wf_u16 wb
  refine ⟨1, ?_⟩
  unfold waggonerlaw17_StreamGrows.f
  rw [stm_awake, Option.bind_some, stream_Write.tells hld, Option.bind_some]
  by_cases hok : Pl.stOk B P T (l.map toE) = true
  rotate_left
  · rw [Pl.swriteS, if_neg hok]
    dsimp only
    rw [if_neg (by decide), waggonerlaw17_StreamGrows.j0, if_pos rfl]
  have hlen := Pl.stW_length hok
  have hpos : 29 ≤ (Pl.stW B P T (l.map toE)).length := by
    have h1 := (Pl.exN_le B (l.map toE) none (Pl.stOk_iff.1 hok).2).1
    have h2 := hlen.1
    generalize ((l.map toE).map Pl.exN).sum = s at h1 h2
    omega
  have h4 := hlen.2
  have hby := Pl.stW_byte (B := B) (P := P) (T := T) (stm_data hld)
  have hgr := fun p q h1 h2 => grows hok (stm_data hld) (p := p) (q := q) h1 h2
  rw [Pl.swriteS, if_pos hok]
  dsimp only
  rw [if_pos rfl, stm_few, Option.bind_some]
  generalize (decide (l.length ≤ 70) && l.all fun s => decide (s.f4.length ≤ 3000)) = few
  cases few
  · rw [waggonerlaw17_StreamGrows.j0, if_pos (show (!false) = true from rfl)]
  clear hlen
  generalize Pl.stW B P T (l.map toE) = W at *
  have na0 := Int.tmod_eq_emod_of_nonneg (a := a) (b := (W.length : Int)) ha.1
  have na1 := Int.emod_nonneg a (show (W.length : Int) ≠ 0 by omega)
  have na2 := Int.emod_lt_of_pos a (show (0 : Int) < (W.length : Int) by omega)
  have nb0 := Int.tmod_eq_emod_of_nonneg (a := b) (b := (W.length : Int)) hb.1
  have nb1 := Int.emod_nonneg b (show (W.length : Int) ≠ 0 by omega)
  have nb2 := Int.emod_lt_of_pos b (show (0 : Int) < (W.length : Int) by omega)
  have ma : wrap64 a = a := by clear na0 na1 na2 nb0 nb1 nb2; unfold wrap64; omega
  have mb : wrap64 b = b := by clear na0 na1 na2 nb0 nb1 nb2 ma; unfold wrap64; omega
  obtain ⟨p, q, hp, hq, hpq, hql⟩ := mn_mx na1 na2 nb1 nb2
  rw [waggonerlaw17_StreamGrows.j0, if_neg (show ¬(!true) = true by decide), ma, mb, na0, nb0, hp, hq]
  clear ma mb na0 na1 na2 nb0 nb1 nb2 hp hq ha hb wa wb
  obtain ⟨⟨sB, sP, sT, sL⟩, ⟨tB, tP, tT, tL⟩, bs, bt, h1, h2, h3⟩ := hgr p q hpq hql
  dsimp only at h1 h2 h3
  rw [if_neg (by omega), if_neg (by omega), if_pos (Int.natCast_nonneg p), if_pos (by omega), Int.toNat_natCast, stm_begin (Pl.byteB_take hby _) (by rw [List.length_take]; omega) bs, Option.bind_some, if_pos (Int.natCast_nonneg q), if_pos (by omega), Int.toNat_natCast, stm_begin (Pl.byteB_take hby _) (by rw [List.length_take]; omega) bt, Option.bind_some]
  dsimp only
  have l1 : ((sL.map ofE).length : Int) ≤ ((tL.map ofE).length : Int) := by rw [List.length_map, List.length_map]; exact Int.ofNat_le.2 h1
  have l2 : ((tL.map ofE).length : Int) ≤ (l.length : Int) := by rw [List.length_map]; rw [List.length_map] at h2; exact Int.ofNat_le.2 h2
  generalize ((sL.map ofE).length : Int) = x1 at l1 ⊢
  generalize ((tL.map ofE).length : Int) = x2 at l1 l2 ⊢
  clear hgr hby bs bt h1 h2
  have e : (161 : Int) = 161 := rfl
  rcases h3 with ⟨rfl, rfl, h3⟩ | ⟨rfl, rfl, rfl, rfl, rfl, rfl⟩
  · rw [if_pos rfl, if_pos rfl, if_pos rfl, if_pos rfl, if_pos rfl, if_pos l1, if_pos l2]
    rcases h3 with rfl | ⟨rfl, rfl⟩
    · rw [if_pos rfl]
    · by_cases c : tB = 0
      · rw [if_pos c]
      · rw [if_neg c, if_pos rfl]; simp
  · by_cases c : tB = 0
    · by_cases d : tT = 0
      · rw [if_pos c, if_pos d, if_pos rfl, if_pos rfl, if_pos rfl, if_pos l1, if_pos l2, if_pos c]
      · rw [if_pos c, if_neg d, if_pos rfl, if_pos rfl, if_pos rfl, if_pos rfl, if_pos rfl, if_pos rfl, if_pos l1, if_pos l2, if_pos c]
    · rw [if_neg c, if_pos rfl, if_pos rfl, if_pos rfl, if_pos rfl, if_pos rfl, if_pos rfl, if_pos l1, if_pos l2, if_neg c, if_pos rfl]; simp
end Go.Proofs.Ytohkmmbmfhficaa.Pure
