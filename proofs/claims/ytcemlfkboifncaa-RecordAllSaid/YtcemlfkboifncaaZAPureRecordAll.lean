/- Words and walks that this claim names, of those that the kit's print and programs of this workplace have printed. -/
import Derived.Test.YtcemlfkboifncaaZAPAx36
import Derived.Test.YtcemlfkboifncaaZARec
import Derived.Test.YtcemlfkboifncaaZAStr
namespace Go.Proofs.Ytcemlfkboifncaa.Pure
open Go.RowKit Go.Proofs.Ytcemlfkboifncaa.PA Go.Proofs.YtcemlfkboifncaaW.PrintWords Go.Proofs.YtcemlfkboifncaaW.PrintLast
set_option linter.unusedVariables false
abbrev RS := S25
theorem same_self (k s : Int) (l : List Int) : waggonerref05_Same.f k s l k s l = some true := by
  unfold waggonerref05_Same.f
  rw [if_pos rfl, if_pos rfl]
  simp
theorem all_self (l : List RS) (hl : l.length < 4611686018427387904) : ∀ (d k i : Nat), i + d = l.length → d < k → waggonerref05_All.l0 k l l (i : Int) = some true
  | 0, k, i, hi, hk => by
    obtain ⟨k, rfl⟩ : ∃ m, k = m + 1 := ⟨k - 1, by omega⟩
    simp only [waggonerref05_All.l0]
    rw [if_neg (by omega)]
  | d + 1, k, i, hi, hk => by
    obtain ⟨k, rfl⟩ : ∃ m, k = m + 1 := ⟨k - 1, by omega⟩
    simp only [waggonerref05_All.l0]
    rw [if_pos (by omega), if_pos (by omega), if_pos (by omega), same_self, Option.bind_some, if_pos rfl, show wrap64 ((i : Int) + 1) = ((i + 1 : Nat) : Int) from by unfold wrap64; omega]
    exact all_self l hl d k (i + 1) (by omega) (by omega)
theorem numbers_self (l : List Int) (hl : l.length < 4611686018427387904) : ∀ (d k i : Nat), i + d = l.length → d < k → waggonerref05_Numbers.l0 k l l (i : Int) = some true
  | 0, k, i, hi, hk => by
    obtain ⟨k, rfl⟩ : ∃ m, k = m + 1 := ⟨k - 1, by omega⟩
    simp only [waggonerref05_Numbers.l0]
    rw [if_neg (by omega)]
  | d + 1, k, i, hi, hk => by
    obtain ⟨k, rfl⟩ : ∃ m, k = m + 1 := ⟨k - 1, by omega⟩
    simp only [waggonerref05_Numbers.l0]
    rw [if_pos (by omega), if_pos (by omega), if_pos (by omega), if_pos trivial, show wrap64 ((i : Int) + 1) = ((i + 1 : Nat) : Int) from by unfold wrap64; omega]
    exact numbers_self l hl d k (i + 1) (by omega) (by omega)
theorem all_yes {l : List RS} {k : Nat} (hk : l.length < k) (h : k < 1000000) : waggonerref05_All.f k l l = some true := by
  unfold waggonerref05_All.f
  rw [if_pos rfl]
  exact all_self _ (by omega) _ k 0 (Nat.zero_add _) hk
theorem numbers_yes {l : List Int} {k : Nat} (hk : l.length < k) (h : k < 1000000) : waggonerref05_Numbers.f k l l = some true := by
  unfold waggonerref05_Numbers.f
  rw [if_pos rfl]
  exact numbers_self _ (by omega) _ k 0 (Nat.zero_add _) hk
def recsB : List RS → List Int
  | [] => []
  | s :: l => Pl.recB s.f0 s.f1 s.f2 ++ recsB l
def plc : Nat → List RS → List Int
  | _, [] => []
  | i, s :: l => (i : Int) :: plc (i + (s.f2.length + 20)) l
def tup (s : RS) : Int × Int × List Int := (s.f0, s.f1, s.f2)
structure Good (s : RS) : Prop where
  ok : Pl.recOk s.f0 s.f1 s.f2 = true
  few : s.f2.length ≤ 200
  byte : Pl.byteB s.f2 = true
theorem recsB_append : ∀ (l m : List RS), recsB (l ++ m) = recsB l ++ recsB m
  | [], m => rfl
  | s :: l, m => by rw [List.cons_append, recsB, recsB, recsB_append l m, List.append_assoc]
theorem recsB_snoc (l : List RS) (s : RS) : recsB (l ++ [s]) = recsB l ++ Pl.recB s.f0 s.f1 s.f2 := by rw [recsB_append, recsB, recsB, List.append_nil]
theorem plc_snoc : ∀ (l : List RS) (s : RS) (i : Nat), plc i (l ++ [s]) = plc i l ++ [((i + (recsB l).length : Nat) : Int)]
  | [], s, i => rfl
  | x :: l, s, i => by
    rw [List.cons_append, plc, plc, plc_snoc l s, recsB, List.length_append, Pl.recB_length, List.cons_append]
    rw [show i + (x.f2.length + 20) + (recsB l).length = i + (x.f2.length + 20 + (recsB l).length) by omega]
theorem plc_length : ∀ (l : List RS) (i : Nat), (plc i l).length = l.length
  | [], i => rfl
  | x :: l, i => by rw [plc, List.length_cons, List.length_cons, plc_length l]
theorem recsB_byte : ∀ {l : List RS}, (∀ s ∈ l, Good s) → Pl.byteB (recsB l) = true
  | [], _ => rfl
  | s :: l, h => by rw [recsB, Pl.byteB_append, Pl.recB_byte (h s List.mem_cons_self).byte, recsB_byte fun x hx => h x (List.mem_cons_of_mem _ hx)]; rfl
theorem recsB_le : ∀ {l : List RS}, (∀ s ∈ l, Good s) → (recsB l).length ≤ 220 * l.length
  | [], _ => Nat.le_refl _
  | s :: l, h => by
    have h1 := recsB_le fun x hx => h x (List.mem_cons_of_mem _ hx)
    have h2 := (h s List.mem_cons_self).few
    rw [recsB, List.length_append, Pl.recB_length, List.length_cons]
    omega
theorem rread_none {b : List Int} (h : ∀ k s l t, Pl.recOk k s l = true → b ≠ Pl.recB k s l ++ t) : (Pl.rreadS b).2.2.2.2 ≠ 0 := by
  rcases Pl.rreadS_cases b with ⟨k, s, l, t, ho, hb, -⟩ | ⟨-, he⟩
  · exact absurd hb (h k s l t ho)
  · rw [he]; decide
theorem rread_nil : (Pl.rreadS []).2.2.2.2 ≠ 0 := rread_none fun k s l t _ e => by
  have := congrArg List.length e
  rw [List.length_append, Pl.recB_length, List.length_nil] at this
  omega
theorem rread_short {k s : Int} {l : List Int} (h : Pl.recOk k s l = true) {j : Nat} (hj : j < (Pl.recB k s l).length) : (Pl.rreadS ((Pl.recB k s l).take j)).2.2.2.2 ≠ 0 := rread_none fun k' s' l' t h' e => by
  have e2 : Pl.recB k s l = Pl.recB k' s' l' ++ (t ++ (Pl.recB k s l).drop j) := by rw [← List.append_assoc, ← e, List.take_append_drop]
  have h1 := Pl.rreadS_write [] h
  rw [List.append_nil, e2, Pl.rreadS_write _ h'] at h1
  simp only [Prod.mk.injEq] at h1
  have hl := congrArg List.length e
  rw [List.length_append, Pl.recB_length, List.length_take] at hl
  rw [Pl.recB_length] at hj hl
  have := h1.2.2.2.1
  omega
theorem scan_all : ∀ (L : List RS) (d i : Nat) (t : List Int), (∀ s ∈ L, Good s) → (Pl.rreadS t).2.2.2.2 ≠ 0 → L.length < d → Pl.scanG d (recsB L ++ t) i = (L.map tup, plc i L)
  | [], d, i, t, hg, ht, hd => by
    obtain ⟨d, rfl⟩ : ∃ m, d = m + 1 := ⟨d - 1, by rw [List.length_nil] at hd; omega⟩
    rw [recsB, List.nil_append, Pl.scanG, if_neg ht]
    rfl
  | s :: L, d, i, t, hg, ht, hd => by
    obtain ⟨d, rfl⟩ : ∃ m, d = m + 1 := ⟨d - 1, by rw [List.length_cons] at hd; omega⟩
    have hw := Pl.rreadS_write (recsB L ++ t) (hg s List.mem_cons_self).ok
    have hl := Pl.recB_length s.f0 s.f1 s.f2
    rw [recsB, List.append_assoc, Pl.scanG, hw]
    dsimp only
    rw [if_pos rfl, List.drop_left' (by omega), scan_all L d _ t (fun x hx => hg x (List.mem_cons_of_mem _ hx)) ht (by rw [List.length_cons] at hd; omega)]
    rfl
theorem scan_at {L : List RS} {t : List Int} (hg : ∀ s ∈ L, Good s) (ht : (Pl.rreadS t).2.2.2.2 ≠ 0) (hb : Pl.byteB t = true) (hn : L.length ≤ 8) (hl : t.length ≤ 1000) : record_Scan.f (recsB L ++ t) = some (L, plc 0 L) := by
  have h1 := recsB_le hg
  have h2 : L.length ≤ (recsB L).length := by
    clear hn h1
    induction L with
    | nil => exact Nat.le_refl _
    | cons s L ih =>
      have := ih fun x hx => hg x (List.mem_cons_of_mem _ hx)
      rw [recsB, List.length_append, Pl.recB_length, List.length_cons]; omega
  have h3 : (recsB L ++ t).length = (recsB L).length + t.length := List.length_append
  unfold record_Scan.f
  rw [if_pos ⟨by rw [Pl.byteB_append, recsB_byte hg, hb]; rfl, by omega⟩, Pl.scanS, scan_all L _ 0 t hg ht (by omega)]
  dsimp only
  rw [List.map_map, show ((fun p : Int × Int × List Int => (⟨p.1, p.2.1, p.2.2⟩ : RS)) ∘ tup) = id from funext fun s => rfl, List.map_id]
def lastN (L : List RS) : Int := match L.getLast? with | none => 0 | some s => ((Pl.recB s.f0 s.f1 s.f2).length : Int)
theorem lastN_snoc (L : List RS) (s : RS) : lastN (L ++ [s]) = ((Pl.recB s.f0 s.f1 s.f2).length : Int) := by
  rw [lastN, List.getLast?_append, List.getLast?_singleton, Option.some_or]
theorem snoc_of {L : List RS} (h : L ≠ []) : ∃ M s, L = M ++ [s] := by
  cases hr : L.reverse with
  | nil => exact absurd (List.reverse_eq_nil_iff.1 hr) h
  | cons x m => exact ⟨m.reverse, x, by rw [← List.reverse_reverse L, hr, List.reverse_cons]⟩
theorem cut_at {m n : Nat} {c : Int} (hm : m ≤ 2000) (h0 : 0 < n) (hn : n ≤ 300) (hc : 0 ≤ c ∧ c < 65536) : ∃ j : Nat, j < n ∧ wrap64 (wrap64 (((m + n : Nat) : Int) - 1) - Int.tmod (wrap64 c) (n : Int)) = ((m + j : Nat) : Int) := by
  have w1 : wrap64 c = c := by unfold wrap64; omega
  have e0 := Int.emod_nonneg c (show ((n : Nat) : Int) ≠ 0 by omega)
  have e1 := Int.emod_lt_of_pos c (show (0 : Int) < (n : Int) by omega)
  rw [w1, Int.tmod_eq_emod_of_nonneg hc.1]
  generalize c % (n : Int) = q at e0 e1
  have w2 : wrap64 (((m + n : Nat) : Int) - 1) = ((m + n : Nat) : Int) - 1 := by unfold wrap64; omega
  rw [w2]
  clear w1 w2
  refine ⟨(n - 1 - q).toNat, by omega, ?_⟩
  unfold wrap64
  omega
theorem done_all {K : Nat} {L : List RS} {c : Int} (hg : ∀ s ∈ L, Good s) (hn : L.length ≤ 8) (hK : 20 < K) (hK2 : K < 1000) (hc : 0 ≤ c ∧ c < 65536) :
    ((record_Scan.f (recsB L)).bind fun bt185 => ((waggonerref05_All.f K bt185.1 L).bind fun t191 => (if t191 = true then ((waggonerref05_Numbers.f K bt185.2 (plc 0 L)).bind fun t192 => (if t192 = true then (waggonerlaw05_RecordAll.j1 K c true (recsB L) L (plc 0 L) (lastN L) bt185.1 (L.length : Int) ((L.length : Int) == 0)) else (waggonerlaw05_RecordAll.j1 K c true (recsB L) L (plc 0 L) (lastN L) bt185.1 (L.length : Int) true))) else (waggonerlaw05_RecordAll.j1 K c true (recsB L) L (plc 0 L) (lastN L) bt185.1 (L.length : Int) true)))) = some true := by
  have hs := scan_at (t := []) hg rread_nil rfl hn (by decide)
  rw [List.append_nil] at hs
  rw [hs, Option.bind_some]
  dsimp only
  rw [all_yes (by omega) (by omega), Option.bind_some, if_pos rfl, numbers_yes (by rw [plc_length]; omega) (by omega), Option.bind_some, if_pos rfl]
  obtain ⟨K, rfl⟩ : ∃ m, K = m + 1 := ⟨K - 1, by omega⟩
  simp only [waggonerlaw05_RecordAll.j1]
  by_cases h0 : L = []
  · subst h0
    rw [if_pos (show ((([] : List RS).length : Int) == 0) = true from rfl), if_pos trivial, if_pos (show ((([] : List RS).length : Int) = 0) from rfl)]; rfl
  obtain ⟨M, s, rfl⟩ := snoc_of h0
  have hgs := hg s (List.mem_append_right _ List.mem_cons_self)
  have hgM : ∀ x ∈ M, Good x := fun x hx => hg x (List.mem_append_left _ hx)
  have hlen : (M ++ [s]).length = M.length + 1 := by rw [List.length_append]; rfl
  have hr := Pl.recB_length s.f0 s.f1 s.f2
  have hfew := hgs.few
  have hle := recsB_le hgM
  have hbl : (recsB (M ++ [s])).length = (recsB M).length + (s.f2.length + 20) := by rw [recsB_snoc, List.length_append, hr]
  obtain ⟨j, hj2, hj⟩ := cut_at (m := (recsB M).length) (n := s.f2.length + 20) (c := c) (by omega) (by omega) (by omega) hc
  have hne : ¬ ((((M ++ [s]).length : Int) == 0) = true) := fun e => by have := eq_of_beq e; omega
  rw [if_neg hne, lastN_snoc, hr, hbl, if_neg (show ¬ (((s.f2.length + 20 : Nat) : Int) = 0) by omega), hj, if_pos (show (0 : Int) ≤ (((recsB M).length + j : Nat) : Int) by omega), if_pos (show (((recsB M).length + j : Nat) : Int) ≤ (((recsB M).length + (s.f2.length + 20) : Nat) : Int) by omega), Int.toNat_natCast]
  clear hj hbl
  have ht : (recsB (M ++ [s])).take ((recsB M).length + j) = recsB M ++ (Pl.recB s.f0 s.f1 s.f2).take j := by rw [recsB_snoc, List.take_length_add_append]
  have hsM := scan_at (t := (Pl.recB s.f0 s.f1 s.f2).take j) hgM (rread_short hgs.ok (by omega)) (Pl.byteB_take (Pl.recB_byte hgs.byte) _) (by omega) (by rw [List.length_take]; omega)
  rw [ht, hsM, Option.bind_some, if_pos trivial]
  have w4 : wrap64 (((M ++ [s]).length : Int) - 1) = (M.length : Int) := by rw [hlen]; unfold wrap64; omega
  rw [w4, if_pos (by omega), if_pos (by omega), Int.toNat_natCast, List.take_left' rfl]
  dsimp only
  rw [all_yes (by omega) (by omega), Option.bind_some, if_pos rfl, if_pos (by rw [plc_length]; omega), plc_snoc, List.take_left' (plc_length _ _), numbers_yes (by rw [plc_length]; omega) (by omega), Option.bind_some]
theorem rd_getR (l : List RS) (i : Nat) (h : i < l.length) : rd_T25 l (i : Int) = l[i] := by simp [rd_T25, h]
theorem loop_all {l0 : List RS} {c : Int} (h8 : l0.length ≤ 8) (hb : ∀ s ∈ l0, Pl.byteB s.f2 = true) (hc : 0 ≤ c ∧ c < 65536) : ∀ (m K i : Nat) (L : List RS), l0.length - i = m → i ≤ l0.length → m + 30 < K → K < 1000 → (∀ s ∈ L, Good s) → L.length ≤ i →
    waggonerlaw05_RecordAll.l0 K l0 c true (recsB L) L (plc 0 L) (lastN L) (i : Int) = some true
  | 0, K, i, L, hm, hi, hK, hK2, hg, hl => by
    obtain ⟨K, rfl⟩ : ∃ m, K = m + 1 := ⟨K - 1, by omega⟩
    simp only [waggonerlaw05_RecordAll.l0]
    rw [if_neg (by omega)]
    exact done_all hg (by omega) (by omega) (by omega) hc
  | m + 1, K, i, L, hm, hi, hK, hK2, hg, hl => by
    obtain ⟨K, rfl⟩ : ∃ m, K = m + 1 := ⟨K - 1, by omega⟩
    have hi0 : i < l0.length := by omega
    have hbs := hb l0[i] (List.getElem_mem hi0)
    have w1 : wrap64 ((i : Int) + 1) = ((i + 1 : Nat) : Int) := by unfold wrap64; omega
    simp only [waggonerlaw05_RecordAll.l0]
    rw [if_pos (by omega), if_pos (by omega), rd_getR l0 i hi0, show record_Write.f l0[i].f0 l0[i].f1 l0[i].f2 = some (Pl.rwriteS l0[i].f0 l0[i].f1 l0[i].f2) from by unfold record_Write.f; rw [if_pos hbs], Option.bind_some, w1]
    by_cases h200 : (l0[i].f2.length : Int) > 200
    · rw [if_pos h200]
      exact loop_all h8 hb hc m K (i + 1) L (by omega) (by omega) (by omega) (by omega) hg (by omega)
    rw [if_neg h200, Pl.rwriteS]
    by_cases ho : Pl.recOk l0[i].f0 l0[i].f1 l0[i].f2 = true
    · have hle := recsB_le hg
      have hr := Pl.recB_length l0[i].f0 l0[i].f1 l0[i].f2
      rw [if_pos ho, if_pos rfl, if_pos (by omega), if_pos (by rw [plc_length]; omega), if_pos (by dsimp only; omega)]
      dsimp only
      have hs := recsB_snoc L l0[i]
      have hp := plc_snoc L l0[i] 0
      have hn := lastN_snoc L l0[i]
      rw [Nat.zero_add] at hp
      have := loop_all h8 hb hc m K (i + 1) (L ++ [l0[i]]) (by omega) (by omega) (by omega) (by omega) (fun x hx => by
        rcases List.mem_append.1 hx with hx | hx
        · exact hg x hx
        · rw [List.mem_singleton.1 hx]; exact ⟨ho, by omega, hbs⟩) (by rw [List.length_append, List.length_singleton]; omega)
      rw [hs, hp, hn] at this
      exact this
    · rw [if_neg ho, if_neg (by decide)]
      exact loop_all h8 hb hc m K (i + 1) L (by omega) (by omega) (by omega) (by omega) hg (by omega)
theorem RecordAll (l0 : List RS) (c : Int) (wl : ∀ s ∈ l0, (Lit.int .i64 s.f0).wf = true ∧ (Lit.int .i64 s.f1).wf = true ∧ (∀ x ∈ s.f2, (Lit.int .u8 x).wf = true)) (wc : (Lit.int .u16 c).wf = true) : ∃ k, waggonerlaw05_RecordAll.f k l0 c = some true := by
  refine ⟨100, ?_⟩
  unfold waggonerlaw05_RecordAll.f waggonerlaw05_awake.f
  rw [Option.bind_some]
  by_cases c0 : (l0.length : Int) > 8
  · rw [if_pos c0]
  rw [if_neg c0]
  have hc := Pl.wf_u16 wc
  exact loop_all (by omega) (fun s hs => Pl.wf_u8 (wl s hs).2.2) hc _ 100 0 [] rfl (Nat.zero_le _) (by omega) (by omega) (fun s hs => absurd hs List.not_mem_nil) (Nat.le_refl _)
end Go.Proofs.Ytcemlfkboifncaa.Pure
