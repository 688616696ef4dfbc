/- Words and walks that this claim names, of those that the kit's print and programs of this workplace have printed. -/
import Derived.Test.YtohkmmbmfhficaaZMPMx74
import Derived.Test.YtohkmmbmfhficaaZMStmm
import Derived.Test.YtohkmmbmfhficaaZMStr
namespace Go.Proofs.Ytohkmmbmfhficaa.Pure
open Go Go.RowKit Go.Proofs.Ytohkmmbmfhficaa.PM Go.Proofs.YtohkmmbmfhficaaW.PrintWords Go.Proofs.YtohkmmbmfhficaaW.PrintLast
set_option linter.unusedVariables false
theorem stm_awake : waggonerlaw17_awake.f = some true := rfl
theorem stm_few (B P T : Int) (l : List S36) : waggonerlaw17_few.f B P T l = some (decide (l.length ≤ 70) && l.all fun s => decide (s.f4.length ≤ 3000)) := by
  unfold waggonerlaw17_few.f waggonerlaw07_Few.f
  rw [Option.bind_some]
theorem wrap_id (x : Int) (h0 : -1000000000 ≤ x) (h1 : x ≤ 1000000000) : wrap64 x = x := by unfold wrap64; omega
theorem each_of {B : Int} : ∀ {L : List Pl.Ext} {p : Option Pl.Ext}, Pl.stGo B p L = true → ∀ u ∈ L, Pl.eOk u = true
  | [], _, _, u, hu => absurd hu (by simp)
  | x :: l, p, h, u, hu => by
    rw [Pl.stGo_cons, Bool.and_eq_true] at h
    rcases List.mem_cons.1 hu with rfl | hu
    · exact (Pl.stOne_iff.1 h.1).1
    · exact each_of h.2 u hu
set_option maxHeartbeats 1000000 in
theorem sizes_loop {B P T : Int} {l : List S36} {b : List Int} (hl : l.length ≤ 70) (hE : ∀ u ∈ l.map toE, Pl.eOk u = true) (g : Nat → Int) (hb : (b.length : Int) = 29 + g l.length) (hg : ∀ i (h : i < l.length), g (i + 1) = g i + Pl.exN (toE l[i])) (h4 : b.length ≤ 4000) : ∀ (m k i : Nat) (x : Int), l.length - i = m → i ≤ l.length → m < k → x = 29 + g i → 0 ≤ x → x ≤ 29 + 3000 * (i : Int) →
    waggonerlaw17_StreamSizes.l0 k true b x (i : Int) B P T l = some true
  | 0, k, i, x, hm, hi, hk, hx, h0, h1 => by
    obtain ⟨k, rfl⟩ : ∃ m, k = m + 1 := ⟨k - 1, by omega⟩
    obtain rfl : i = l.length := by omega
    have e1 : (b.length : Int) = x := by rw [hb, hx]
    have e2 : x ≤ 4000 := by rw [← e1]; exact Int.ofNat_le.2 h4
    simp only [waggonerlaw17_StreamSizes.l0]
    rw [if_neg (Int.lt_irrefl _), if_pos trivial, if_pos e1, decide_eq_true e2]
  | m + 1, k, i, x, hm, hi, hk, hx, h0, h1 => by
    obtain ⟨k, rfl⟩ : ∃ m, k = m + 1 := ⟨k - 1, by omega⟩
    have hlt : i < l.length := by omega
    obtain ⟨s, hs⟩ : ∃ s, s = l[i] := ⟨_, rfl⟩
    have ho := Pl.extOk_iff.1 (show Pl.extOk s.f0 s.f1 s.f2 s.f3 s.f4 = true from hE (toE s) (List.mem_map_of_mem (by rw [hs]; exact List.getElem_mem hlt)))
    have hstep : 29 + g (i + 1) = x + Pl.exN (toE s) := by
      have h2 := hg i hlt
      rw [← hs] at h2
      generalize Pl.exN (toE s) = e at h2 ⊢
      omega
    have w1 : wrap64 ((i : Int) + 1) = ((i + 1 : Nat) : Int) := (wrap_id _ (by omega) (by omega)).trans (Int.natCast_succ i).symm
    simp only [waggonerlaw17_StreamSizes.l0]
    rw [if_pos (Int.ofNat_lt.2 hlt), if_pos (Int.natCast_nonneg i), rd_getE l i hlt, ← hs, w1]
    clear w1
    by_cases k2 : s.f2 = 2
    · have hn : Pl.exN (toE s) = 9 * ((s.f1 + 15) / 16) + 32 * s.f1 := if_pos k2
      have q2 : Int.tdiv (s.f1 + 15) 16 = (s.f1 + 15) / 16 := Int.tdiv_eq_ediv_of_nonneg (by omega)
      obtain ⟨z, hz⟩ : ∃ z, z = (s.f1 + 15) / 16 := ⟨_, rfl⟩
      rw [← hz] at hn
      have z0 : 0 ≤ z ∧ z ≤ 10 := by omega
      have x0 : x ≤ 1000000 := by omega
      have f0 : 0 ≤ s.f1 ∧ s.f1 ≤ 64 := by omega
      generalize Pl.exN (toE s) = e at hn hstep ⊢
      have e0 : 0 ≤ e ∧ e ≤ 3000 := by omega
      have q7 : wrap64 (x + 9 * z + 32 * s.f1) = x + e := (wrap_id _ (by omega) (by omega)).trans (by omega)
      have q1 := wrap_id (s.f1 + 15) (by clear q7; omega) (by clear q7; omega)
      have q3 := wrap_id z (by clear q1 q7; omega) (by clear q1 q7; omega)
      have q4 := wrap_id (9 * z) (by clear q1 q3 q7; omega) (by clear q1 q3 q7; omega)
      have q5 := wrap_id (x + 9 * z) (by clear q1 q3 q4 q7; omega) (by clear q1 q3 q4 q7; omega)
      have q6 := wrap_id (32 * s.f1) (by clear q1 q3 q4 q5 q7; omega) (by clear q1 q3 q4 q5 q7; omega)
      rw [if_pos k2, q1, q2, ← hz, q3, q4, q5, q6, q7]
      clear q1 q2 q3 q4 q5 q6 q7
      exact sizes_loop hl hE g hb hg h4 m k (i + 1) _ (by omega) (by omega) (by omega) hstep.symm (by omega) (by clear hg hE; omega)
    · have hn : Pl.exN (toE s) = 9 := if_neg k2
      generalize Pl.exN (toE s) = e at hn hstep ⊢
      have q7 : wrap64 (x + 9) = x + e := (wrap_id _ (by omega) (by omega)).trans (by omega)
      rw [if_neg k2, q7]
      clear q7
      exact sizes_loop hl hE g hb hg h4 m k (i + 1) _ (by omega) (by omega) (by omega) hstep.symm (by omega) (by clear hg hE; omega)
theorem StreamSizes (B P T : Int) (l : List S36) (w0 : (Lit.int .i64 B).wf = true) (w1 : (Lit.int .i64 P).wf = true) (w2 : (Lit.int .i64 T).wf = true) (wl : ∀ s ∈ l, (Lit.int .i64 s.f0).wf = true ∧ (Lit.int .i64 s.f1).wf = true ∧ (Lit.int .i64 s.f2).wf = true ∧ (Lit.int .i64 s.f3).wf = true ∧ (∀ x ∈ s.f4, (Lit.int .u8 x).wf = true)) : ∃ kk, waggonerlaw17_StreamSizes.f kk B P T l = some true := by
  have hld : ∀ s ∈ l, Pl.byteB s.f4 = true := fun s hs => Pl.wf_u8 (wl s hs).2.2.2.2
  refine ⟨73, ?_⟩
  unfold waggonerlaw17_StreamSizes.f
  rw [stm_awake, Option.bind_some, stream_Write.tells hld, Option.bind_some]
  have out : ∀ b, waggonerlaw17_StreamSizes.j0 73 true b true B P T l = some true := fun b => by
    rw [waggonerlaw17_StreamSizes.j0, if_pos rfl]
  by_cases hok : Pl.stOk B P T (l.map toE) = true
  rotate_left
  · rw [Pl.swriteS, if_neg hok, if_neg (by decide)]
    exact out _
  rw [Pl.swriteS, if_pos hok]
  dsimp only
  rw [if_pos rfl, stm_few, Option.bind_some]
  by_cases hf : (decide (l.length ≤ 70) && l.all fun s => decide (s.f4.length ≤ 3000)) = true
  rotate_left
  · rw [Bool.eq_false_iff.2 hf]
    exact out _
  rw [hf]
  rw [Bool.and_eq_true, decide_eq_true_eq] at hf
  have hlen := Pl.stW_length hok
  rw [Bool.not_true, waggonerlaw17_StreamSizes.j0, if_neg (by decide)]
  exact sizes_loop hf.1 (each_of (Pl.stOk_iff.1 hok).2) (fun i => (((l.take i).map toE).map Pl.exN).sum) (by rw [List.take_length]; exact hlen.1) (fun i h => by rw [← List.take_append_getElem h, List.map_append, List.map_append, List.sum_append]; simp) hlen.2 l.length 72 0 29 (Nat.sub_zero _) (Nat.zero_le _) (by omega) (by simp) (by decide) (by decide)
end Go.Proofs.Ytohkmmbmfhficaa.Pure
