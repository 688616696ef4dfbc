/- Words and walks that this claim names, of those that the kit's print and programs of this workplace have printed. -/
import Derived.Test.YtohkmmbmfhficaaZGPGx47
import Derived.Test.YtohkmmbmfhficaaZGFrm
import Derived.Test.YtohkmmbmfhficaaZGStr
namespace Go.Proofs.Ytohkmmbmfhficaa.Pure
open Go.RowKit Go.Proofs.Ytohkmmbmfhficaa.PG Go.Proofs.YtohkmmbmfhficaaW.PrintWords Go.Proofs.YtohkmmbmfhficaaW.PrintLast
set_option linter.unusedVariables false
abbrev FS := S38
abbrev okF (s : FS) : Prop := Pl.frOk s.f0 s.f1 s.f2 s.f3 s.f4 s.f5 s.f6 = true
abbrev wF (s : FS) : List Int := Pl.frW s.f0 s.f1 s.f2 s.f3 s.f4 s.f5 s.f6
def fsB : List FS → List Int
  | [] => []
  | s :: l => wF s ++ fsB l
theorem fsB_append : ∀ (l m : List FS), fsB (l ++ m) = fsB l ++ fsB m
  | [], m => rfl
  | s :: l, m => by rw [List.cons_append, fsB, fsB, fsB_append l m, List.append_assoc]
theorem fsB_snoc (l : List FS) (s : FS) : fsB (l ++ [s]) = fsB l ++ wF s := by rw [fsB_append, fsB, fsB, List.append_nil]
structure GoodF (s : FS) : Prop where
  ok : okF s
  byte : Pl.byteB s.f3 = true
theorem fsB_byte : ∀ {l : List FS}, (∀ s ∈ l, GoodF s) → Pl.byteB (fsB l) = true
  | [], _ => rfl
  | s :: l, h => by rw [fsB, Pl.byteB_append, Pl.frW_byte (h s List.mem_cons_self).byte, fsB_byte fun x hx => h x (List.mem_cons_of_mem _ hx)]; rfl
theorem fsB_le : ∀ {l : List FS}, (∀ s ∈ l, GoodF s) → (fsB l).length ≤ 521 * l.length
  | [], _ => Nat.le_refl _
  | s :: l, h => by
    have h1 := fsB_le fun x hx => h x (List.mem_cons_of_mem _ hx)
    have h2 := Pl.frW_le (h s List.mem_cons_self).ok
    rw [fsB, List.length_append, List.length_cons]
    show (Pl.frW s.f0 s.f1 s.f2 s.f3 s.f4 s.f5 s.f6).length + _ ≤ _
    omega
theorem rd_getF (l : List FS) (i : Nat) (h : i < l.length) : rd_T38 l (i : Int) = l[i] := by simp [rd_T38, h]
theorem read_all {L : List FS} (hg : ∀ s ∈ L, GoodF s) (h8 : L.length ≤ 8) : ∀ (m K j : Nat), L.length - j = m → j ≤ L.length → m < K →
    waggonerlaw16_FrameGoes.l1 K true (fsB L) L (((fsB (L.take j)).length : Nat) : Int) (j : Int) = some true
  | 0, K, j, hm, hj, hK => by
    obtain ⟨K, rfl⟩ : ∃ m, K = m + 1 := ⟨K - 1, by omega⟩
    simp only [waggonerlaw16_FrameGoes.l1]
    rw [if_neg (by omega), List.take_of_length_le (by omega), if_pos trivial]
    simp
  | m + 1, K, j, hm, hj, hK => by
    obtain ⟨K, rfl⟩ : ∃ m, K = m + 1 := ⟨K - 1, by omega⟩
    have hj0 : j < L.length := by omega
    have hs := hg L[j] (List.getElem_mem hj0)
    have hle := fsB_le hg
    have hby := fsB_byte hg
    have e1 : L = L.take j ++ L.drop j := (List.take_append_drop j L).symm
    have e2 : L.drop j = L[j] :: L.drop (j + 1) := List.drop_eq_getElem_cons hj0
    have e3 : fsB L = fsB (L.take j) ++ (wF L[j] ++ fsB (L.drop (j + 1))) := by
      conv => lhs; rw [e1, fsB_append, e2, fsB]
    have e4 : L.take (j + 1) = L.take j ++ [L[j]] := by rw [List.take_add_one, List.getElem?_eq_getElem hj0]; rfl
    have hl := congrArg List.length e3
    rw [List.length_append, List.length_append] at hl
    have hw := Pl.frW_le hs.ok
    have hl' : (fsB L).length = (fsB (L.take j)).length + ((Pl.frW L[j].f0 L[j].f1 L[j].f2 L[j].f3 L[j].f4 L[j].f5 L[j].f6).length + (fsB (L.drop (j + 1))).length) := hl
    have hdr : (fsB L).drop (fsB (L.take j)).length = wF L[j] ++ fsB (L.drop (j + 1)) := by rw [e3, List.drop_left]
    have hdb := Pl.byteB_drop hby (fsB (L.take j)).length
    rw [hdr] at hdb
    obtain ⟨p, hp⟩ : ∃ p, p = (fsB (L.take j)).length := ⟨_, rfl⟩
    obtain ⟨q, hq⟩ : ∃ q, q = (Pl.frW L[j].f0 L[j].f1 L[j].f2 L[j].f3 L[j].f4 L[j].f5 L[j].f6).length := ⟨_, rfl⟩
    obtain ⟨N, hN⟩ : ∃ N, N = (fsB L).length := ⟨_, rfl⟩
    have hpq : (fsB (L.take (j + 1))).length = p + q := by
      rw [e4, fsB_snoc, List.length_append, hp, hq]
    have hdl : (wF L[j] ++ fsB (L.drop (j + 1))).length < 1073741824 := by rw [← hdr, List.length_drop]; omega
    rw [← hp, ← hq, ← hN] at hl'
    rw [← hN] at hle
    rw [← hq] at hw
    rw [← hp] at hdr ⊢
    have c1 : (j : Int) < (L.length : Int) := by omega
    have c2 : (p : Int) ≤ (N : Int) := by omega
    have c3 : ¬ (q : Int) < 9 := by omega
    have c4 : ¬ (q : Int) > (N : Int) - (p : Int) := by omega
    have w1 : wrap64 ((j : Int) + 1) = ((j + 1 : Nat) : Int) := by clear hl' hle hdr hdl hw c1 c2 c3 c4; unfold wrap64; omega
    have w2 : wrap64 ((N : Int) - (p : Int)) = (N : Int) - (p : Int) := by clear hdr hdl w1; unfold wrap64; omega
    have w3 : wrap64 ((p : Int) + (q : Int)) = ((p + q : Nat) : Int) := by clear hdr hdl w1 w2; unfold wrap64; omega
    have hrd := frame_Read.tells hdb hdl (Pl.freadS_write (fsB (L.drop (j + 1))) hs.ok)
    rw [← hq] at hrd
    have c0 : (0 : Int) ≤ (p : Int) := Int.natCast_nonneg p
    have cj : (0 : Int) ≤ (j : Int) := Int.natCast_nonneg j
    have hsame := waggonerref16_Same.tells (a0_0 := L[j].f0) (a0_1 := L[j].f1) (a0_2 := L[j].f2) (a0_4 := L[j].f4) (a0_5 := L[j].f5) (a0_6 := L[j].f6) (a1_0 := L[j].f0) (a1_1 := L[j].f1) (a1_2 := L[j].f2) (a1_4 := L[j].f4) (a1_5 := L[j].f5) (a1_6 := L[j].f6) hs.byte hs.byte
    rw [decide_eq_true (show L[j].f0 = L[j].f0 ∧ L[j].f1 = L[j].f1 ∧ L[j].f2 = L[j].f2 ∧ L[j].f3 = L[j].f3 ∧ L[j].f4 = L[j].f4 ∧ L[j].f5 = L[j].f5 ∧ L[j].f6 = L[j].f6 from ⟨rfl, rfl, rfl, rfl, rfl, rfl, rfl⟩)] at hsame
    have ih := read_all hg h8 m K (j + 1) (by clear w1 w2 w3; omega) (by clear w1 w2 w3; omega) (by clear w1 w2 w3; omega)
    rw [hpq] at ih
    simp only [waggonerlaw16_FrameGoes.l1]
    rw [if_pos c1, if_pos c0, ← hN, if_pos c2, Int.toNat_natCast, hdr, hrd, Option.bind_some, if_pos cj, rd_getF L j hj0]
    dsimp only
    rw [hsame, Option.bind_some, if_pos rfl, if_pos rfl, if_neg c3, w2, if_neg c4, w3, w1]
    exact ih
theorem loop_goes {l0 : List FS} (h8 : l0.length ≤ 8) (hb : ∀ s ∈ l0, Pl.byteB s.f3 = true) : ∀ (m K i : Nat) (L : List FS), l0.length - i = m → i ≤ l0.length → m + 20 < K → (∀ s ∈ L, GoodF s) → L.length ≤ i →
    waggonerlaw16_FrameGoes.l0 K l0 true (fsB L) L (i : Int) = some true
  | 0, K, i, L, hm, hi, hK, hg, hl => by
    obtain ⟨K, rfl⟩ : ∃ m, K = m + 1 := ⟨K - 1, by omega⟩
    simp only [waggonerlaw16_FrameGoes.l0]
    rw [if_neg (by omega)]
    exact read_all hg (by omega) L.length K 0 (Nat.sub_zero _) (Nat.zero_le _) (by omega)
  | m + 1, K, i, L, hm, hi, hK, hg, hl => by
    obtain ⟨K, rfl⟩ : ∃ m, K = m + 1 := ⟨K - 1, by omega⟩
    have hi0 : i < l0.length := by omega
    have hbs := hb l0[i] (List.getElem_mem hi0)
    have w1 : wrap64 ((i : Int) + 1) = ((i + 1 : Nat) : Int) := by unfold wrap64; omega
    simp only [waggonerlaw16_FrameGoes.l0]
    rw [if_pos (by omega), if_pos (by omega), rd_getF l0 i hi0, frame_Write.tells hbs, Option.bind_some, w1]
    by_cases h5 : (l0[i].f3.length : Int) ≤ 5000
    rotate_left
    · rw [if_neg h5]
      exact loop_goes h8 hb m K (i + 1) L (by omega) (by omega) (by omega) hg (by omega)
    rw [if_pos h5, Pl.fwriteS]
    by_cases ho : Pl.frOk l0[i].f0 l0[i].f1 l0[i].f2 l0[i].f3 l0[i].f4 l0[i].f5 l0[i].f6 = true
    · have hle := fsB_le hg
      have hw := Pl.frW_le ho
      rw [if_pos ho, if_pos rfl]
      dsimp only
      rw [if_pos (by omega), if_pos (by omega)]
      have hs := fsB_snoc L l0[i]
      have := loop_goes h8 hb m K (i + 1) (L ++ [l0[i]]) (by omega) (by omega) (by omega) (fun x hx => by
        rcases List.mem_append.1 hx with hx | hx
        · exact hg x hx
        · rw [List.mem_singleton.1 hx]; exact ⟨ho, hbs⟩) (by rw [List.length_append, List.length_singleton]; omega)
      rw [hs] at this
      exact this
    · rw [if_neg ho, if_neg (by decide)]
      exact loop_goes h8 hb m K (i + 1) L (by omega) (by omega) (by omega) hg (by omega)
theorem FrameGoes (l0 : List FS) (wl : ∀ s ∈ l0, (Lit.int .i64 s.f0).wf = true ∧ (Lit.int .i64 s.f1).wf = true ∧ (Lit.int .i64 s.f2).wf = true ∧ (∀ x ∈ s.f3, (Lit.int .u8 x).wf = true) ∧ (Lit.int .i64 s.f4).wf = true ∧ (Lit.int .i64 s.f5).wf = true ∧ (Lit.int .i64 s.f6).wf = true) : ∃ k, waggonerlaw16_FrameGoes.f k l0 = some true := by
  refine ⟨40, ?_⟩
  unfold waggonerlaw16_FrameGoes.f waggonerlaw16_awake.f
  rw [Option.bind_some]
  by_cases c0 : (l0.length : Int) > 8
  · rw [if_pos c0]
  rw [if_neg c0]
  exact loop_goes (by omega) (fun s hs => Pl.wf_u8 (wl s hs).2.2.2.1) _ 40 0 [] rfl (Nat.zero_le _) (by omega) (fun s hs => absurd hs List.not_mem_nil) (Nat.le_refl _)
end Go.Proofs.Ytohkmmbmfhficaa.Pure
