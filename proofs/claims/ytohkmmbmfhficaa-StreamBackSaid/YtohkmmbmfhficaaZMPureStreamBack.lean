/- Words and walks that this claim names, of those that the kit's print and programs of this workplace have printed. -/
import Derived.Test.YtohkmmbmfhficaaZMPMx74
import Derived.Test.YtohkmmbmfhficaaZMStmm
import Derived.Test.YtohkmmbmfhficaaZMStr
namespace Go.Proofs.Ytohkmmbmfhficaa.Pure
open Go Go.RowKit Go.Proofs.Ytohkmmbmfhficaa.PM Go.Proofs.YtohkmmbmfhficaaW.PrintWords Go.Proofs.YtohkmmbmfhficaaW.PrintLast
set_option linter.unusedVariables false
theorem stm_begin {b : List Int} (hb : Pl.byteB b = true) (hl : b.length < 1000000000) {B P T e : Int} {L : List Pl.Ext} (h : Pl.beginS b = ((B, P, T, L), e)) : stream_Begin.f b = some (B, P, T, L.map ofE, e) := by
  rw [stream_Begin.tells hb hl, h]
theorem stm_read {b : List Int} (hb : Pl.byteB b = true) (hl : b.length < 1000000000) {B P T e : Int} {L : List Pl.Ext} (h : Pl.sreadS b = ((B, P, T, L), e)) : stream_Read.f b = some (B, P, T, L.map ofE, e) := by
  unfold stream_Read.f
  rw [stream_Begin.tells hb hl, Option.bind_some]
  unfold Pl.sreadS at h
  dsimp only
  split at h
  · rename_i h0
    rw [if_pos h0, h]
    dsimp only
    rw [h] at h0
    rw [show e = 0 from h0]
  · rename_i h0
    rw [if_neg h0]
    simp only [Pl.stZ, Prod.mk.injEq] at h
    obtain ⟨⟨rfl, rfl, rfl, rfl⟩, rfl⟩ := h
    rfl
theorem stm_same {B P T : Int} {l : List S36} {B' P' T' : Int} {l' : List S36} (h0 : ∀ s ∈ l, Pl.byteB s.f4 = true) (h1 : ∀ s ∈ l', Pl.byteB s.f4 = true) (h2 : l.length < 1073741824) : waggonerref17_Same.f B P T l B' P' T' l' = some (decide (B = B' ∧ P = P' ∧ T = T' ∧ l.map toE = l'.map toE)) := by
  unfold waggonerref17_Same.f
  rw [waggonerref07_All.tells h0 h1 h2, Option.bind_some]
  by_cases c0 : B = B'
  · by_cases c1 : P = P'
    · by_cases c2 : T = T'
      · rw [if_pos c0, if_pos c1, if_pos c2]; simp [c0, c1, c2]
      · rw [if_pos c0, if_pos c1, if_neg c2]; simp [c2]
    · rw [if_pos c0, if_neg c1]; simp [c1]
  · rw [if_neg c0]; simp [c0]
theorem stm_awake : waggonerlaw17_awake.f = some true := rfl
theorem stm_few (B P T : Int) (l : List S36) : waggonerlaw17_few.f B P T l = some (decide (l.length ≤ 70) && l.all fun s => decide (s.f4.length ≤ 3000)) := by
  unfold waggonerlaw17_few.f waggonerlaw07_Few.f
  rw [Option.bind_some]
theorem stm_data {l : List S36} (h : ∀ s ∈ l, Pl.byteB s.f4 = true) : ∀ e ∈ l.map toE, Pl.byteB e.2.2.2.2 = true := by
  intro e he
  obtain ⟨s, hs, rfl⟩ := List.mem_map.1 he
  exact h s hs
theorem stm_back {L : List Pl.Ext} (h : ∀ e ∈ L, Pl.byteB e.2.2.2.2 = true) : ∀ s ∈ L.map ofE, Pl.byteB s.f4 = true := by
  intro s hs
  obtain ⟨e, he, rfl⟩ := List.mem_map.1 hs
  exact h e he
theorem last_data (p q r s d : List Int) (h : Pl.byteB (p ++ (q ++ (r ++ (s ++ d)))) = true) : Pl.byteB d = true := by
  rw [Pl.byteB_append, Pl.byteB_append, Pl.byteB_append, Pl.byteB_append] at h
  simp only [Bool.and_eq_true] at h
  exact h.2.2.2.2
set_option maxRecDepth 20000 in
theorem frW_data {f : Pl.Frm} (hk : 2 ≤ f.1 ∧ f.1 ≤ 4) (h : Pl.byteB (Pl.frWT f) = true) : Pl.byteB f.2.2.2.1 = true := by
  obtain ⟨k, a, n, d, A, B, C⟩ := f
  dsimp only at hk ⊢
  unfold Pl.frWT Pl.frW at h
  dsimp only at h
  rw [Pl.seal4, Pl.byteB_append, Bool.and_eq_true] at h
  have h1 := h.1
  rw [Pl.frB, Pl.frT, if_neg (by omega), if_neg (by omega)] at h1
  exact last_data _ _ _ _ _ h1
set_option maxRecDepth 20000 in
theorem fsB_data : ∀ {l : List Pl.Frm}, (∀ f ∈ l, 2 ≤ f.1 ∧ f.1 ≤ 4) → Pl.byteB (Pl.fsB l) = true → ∀ f ∈ l, Pl.byteB f.2.2.2.1 = true
  | [], _, _, f, hf => absurd hf (by simp)
  | g :: l, hk, h, f, hf => by
    rw [Pl.fsB, Pl.byteB_append, Bool.and_eq_true] at h
    rcases List.mem_cons.1 hf with rfl | hf
    · exact frW_data (hk _ List.mem_cons_self) h.1
    · exact fsB_data (fun x hx => hk x (List.mem_cons_of_mem _ hx)) h.2 f hf
theorem chunks_data : ∀ (k : Nat) (a n : Int) (d : List Int), n.toNat ≤ k → (∀ f ∈ Pl.chunks a n d, Pl.byteB f.2.2.2.1 = true) → Pl.byteB d = true
  | k, a, n, d, hk, h => by
    by_cases h16 : 16 < n
    · obtain ⟨k, rfl⟩ : ∃ m, k = m + 1 := ⟨k - 1, by omega⟩
      rw [Pl.chunks_far h16] at h
      have h1 := h _ List.mem_cons_self
      have h2 := chunks_data k (a + 16) (n - 16) (d.drop 512) (by omega) (fun f hf => h f (List.mem_cons_of_mem _ hf))
      rw [← List.take_append_drop 512 d, Pl.byteB_append, h2]
      simpa using h1
    · rw [Pl.chunks_last h16] at h
      exact h _ List.mem_cons_self
theorem exF_data {x : Pl.Ext} (h : ∀ f ∈ Pl.exF x, Pl.byteB f.2.2.2.1 = true) : Pl.byteB x.2.2.2.2 = true := by
  unfold Pl.exF at h
  split at h
  · exact chunks_data _ _ _ _ (Nat.le_refl _) h
  · exact h _ List.mem_cons_self
theorem exsF_data : ∀ {L : List Pl.Ext}, (∀ f ∈ Pl.exsF L, Pl.byteB f.2.2.2.1 = true) → ∀ x ∈ L, Pl.byteB x.2.2.2.2 = true
  | [], _, x, hx => absurd hx (by simp)
  | y :: L, h, x, hx => by
    rw [Pl.exsF] at h
    rcases List.mem_cons.1 hx with rfl | hx
    · exact exF_data (fun f hf => h f (List.mem_append_left _ hf))
    · exact exsF_data (fun f hf => h f (List.mem_append_right _ hf)) x hx
theorem read_data {b : List Int} (hb : Pl.byteB b = true) {B P T e : Int} {L : List Pl.Ext} (h : Pl.sreadS b = ((B, P, T, L), e)) : ∀ x ∈ L, Pl.byteB x.2.2.2.2 = true := by
  unfold Pl.sreadS at h
  split at h
  · rename_i h0
    rw [h] at h0
    obtain rfl : e = 0 := h0
    obtain ⟨h1, h2⟩ := Pl.beginS_back h
    dsimp only at h1 h2
    rw [h2, Pl.stW, Pl.byteB_append, Bool.and_eq_true, Pl.stF, Pl.fsB, Pl.byteB_append, Bool.and_eq_true] at hb
    exact exsF_data (fsB_data (fun f hf => (Pl.exsF_ok B L none (Pl.stOk_iff.1 h1).2 f hf).2) hb.1.2)
  · simp only [Pl.stZ, Prod.mk.injEq] at h
    obtain ⟨⟨-, -, -, rfl⟩, -⟩ := h
    exact fun x hx => absurd hx (by simp)
theorem back_two {B P T : Int} {l : List S36} {b : List Int} {e : Int} (hb : Pl.byteB b = true) (hbl : b.length < 1000000) (hld : ∀ s ∈ l, Pl.byteB s.f4 = true) (he : ((e == 0) == Pl.stOk B P T (l.map toE)) = true) : waggonerlaw17_StreamBack.j1 1 b true e B P T l = some true := by
  obtain ⟨B', P', T', L', e', hr⟩ : ∃ B' P' T' L' e', Pl.sreadS b = ((B', P', T', L'), e') := ⟨_, _, _, _, _, rfl⟩
  have hd := read_data hb hr
  rw [waggonerlaw17_StreamBack.j1, stm_read hb (by omega) hr, Option.bind_some]
  dsimp only
  rw [stream_Write.tells (stm_back hd), Option.bind_some, if_pos rfl]
  unfold stream_Check.f
  rw [Option.bind_some, if_pos he, map_toE_ofE]
  unfold Pl.sreadS at hr
  split at hr
  · rename_i h0
    rw [hr] at h0
    obtain rfl : e' = 0 := h0
    obtain ⟨h1, h2⟩ := Pl.beginS_back hr
    dsimp only at h1 h2
    rw [if_pos rfl, Option.bind_some, if_pos h1, Pl.swriteS, if_pos h1, if_pos rfl, ← h2]
    simp
  · rename_i h0
    simp only [Pl.stZ, Prod.mk.injEq] at hr
    obtain ⟨⟨rfl, rfl, rfl, rfl⟩, rfl⟩ := hr
    rw [if_neg (by decide), if_pos rfl]
theorem StreamBack (B P T : Int) (l : List S36) (b : List Int) (u : Int) (w0 : (Lit.int .i64 B).wf = true) (w1 : (Lit.int .i64 P).wf = true) (w2 : (Lit.int .i64 T).wf = true) (wl : ∀ s ∈ l, (Lit.int .i64 s.f0).wf = true ∧ (Lit.int .i64 s.f1).wf = true ∧ (Lit.int .i64 s.f2).wf = true ∧ (Lit.int .i64 s.f3).wf = true ∧ (∀ x ∈ s.f4, (Lit.int .u8 x).wf = true)) (wb : ∀ x ∈ b, (Lit.int .u8 x).wf = true) (wu : (Lit.int .u16 u).wf = true) : ∃ kk, waggonerlaw17_StreamBack.f kk B P T l b u = some true := by
  have hld : ∀ s ∈ l, Pl.byteB s.f4 = true := fun s hs => Pl.wf_u8 (wl s hs).2.2.2.2
  have hb := Pl.wf_u8 wb
  have hu := Pl.wf_u16 wu
  refine ⟨2, ?_⟩
  unfold waggonerlaw17_StreamBack.f
  rw [stm_awake, Option.bind_some, stm_few, Option.bind_some]
  have out : waggonerlaw17_StreamBack.j0 2 b u true true B P T l = some true := by
    rw [waggonerlaw17_StreamBack.j0, if_pos rfl]
  by_cases hf : (decide (l.length ≤ 70) && l.all fun s => decide (s.f4.length ≤ 3000)) = true
  rotate_left
  · rw [if_neg hf]; exact out
  rw [if_pos hf]
  by_cases c1 : (b.length : Int) > 5000
  · rw [decide_eq_true c1]; exact out
  rw [decide_eq_false c1]
  rw [Bool.and_eq_true, decide_eq_true_eq] at hf
  rw [waggonerlaw17_StreamBack.j0, if_neg (by decide), stream_Write.tells hld, Option.bind_some]
  by_cases hok : Pl.stOk B P T (l.map toE) = true
  rotate_left
  · rw [Pl.swriteS, if_neg hok]
    dsimp only
    rw [if_neg (by decide)]
    exact back_two hb (by omega) hld (by rw [Bool.eq_false_iff.2 hok]; rfl)
  have hlen := Pl.stW_length hok
  have hpos : 29 ≤ (Pl.stW B P T (l.map toE)).length := by
    have h1 := (Pl.exN_le B (l.map toE) none (Pl.stOk_iff.1 hok).2).1
    have h2 := hlen.1
    generalize ((l.map toE).map Pl.exN).sum = s at h1 h2
    omega
  have h4 := hlen.2
  have hby := Pl.stW_byte (B := B) (P := P) (T := T) (stm_data hld)
  have hrd := Pl.sreadS_write hok (stm_data hld)
  have hmore := Pl.sreadS_more hok (stm_data hld) (r := [0]) (by simp)
  have htake := fun j (hj : j < (Pl.stW B P T (l.map toE)).length) => Pl.beginS_take hok (stm_data hld) hj
  have hsame : waggonerref17_Same.f B P T l B P T ((l.map toE).map ofE) = some true := by
    rw [map_ofE_toE, stm_same hld hld (by omega), decide_eq_true ⟨rfl, rfl, rfl, rfl⟩]
  rw [Pl.swriteS, if_pos hok]
  dsimp only
  rw [if_pos rfl]
  have hfin := back_two (e := 0) hb (by omega) hld (by rw [hok]; rfl)
  clear hlen
  generalize Pl.stW B P T (l.map toE) = W at *
  have m0 := Int.tmod_eq_emod_of_nonneg (a := u) (b := (W.length : Int)) hu.1
  have m1 := Int.emod_nonneg u (show (W.length : Int) ≠ 0 by omega)
  have m2 := Int.emod_lt_of_pos u (show (0 : Int) < (W.length : Int) by omega)
  have mu : wrap64 u = u := by unfold wrap64; omega
  obtain ⟨j, hj⟩ := Int.eq_ofNat_of_zero_le m1
  rw [if_neg (by omega), stm_read hby (by omega) hrd, Option.bind_some, if_neg (by omega), mu, m0, hj, if_pos (Int.natCast_nonneg j), if_pos (by omega), Int.toNat_natCast]
  have hjl : j < W.length := by clear mu m0; omega
  clear mu m0 m1 m2
  obtain ⟨i, s, -, -, hbeg, -, -⟩ := htake j hjl
  obtain ⟨sB, sP, sT, sL⟩ := s
  rw [stm_begin (Pl.byteB_take hby _) (by rw [List.length_take]; omega) hbeg, Option.bind_some, Option.bind_some, List.nil_append, if_pos (by rw [List.length_nil]; omega), Option.bind_some, if_pos (by omega), stm_read (by rw [Pl.byteB_append, hby]; rfl) (by rw [List.length_append, List.length_singleton]; omega) hmore, Option.bind_some]
  dsimp only
  rw [hsame, Option.bind_some, if_pos rfl, if_pos rfl, if_pos rfl, if_pos rfl]
  exact hfin
end Go.Proofs.Ytohkmmbmfhficaa.Pure
