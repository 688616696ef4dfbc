/- Words and walks that this claim names, of those that the kit's print and programs of this workplace have printed. -/
import Derived.Test.YtmgohkffphogdaaZUExtc
set_option linter.unusedVariables false
namespace Go.Proofs.Ytmgohkffphogdaa.Pl
def folB : Int → List Ext → Bool
  | _, [] => true
  | t, e :: l => eOk e && (decide (t ≤ e.1) && folB (e.1 + e.2.1) l)
def folS (l : List Ext) : Bool := decide (l.length ≤ 64) && folB 0 l
def blocksB (a n : Int) : Bool := decide (0 ≤ a ∧ a ≤ 64 ∧ 1 ≤ n ∧ n ≤ 64 - a)
def idB (i : Int) : Bool := decide (1 ≤ i ∧ i ≤ 2147483647)
def chOk (k a n i : Int) (d : List Int) (l : List Ext) : Bool :=
  decide (1 ≤ k ∧ k ≤ 8) && ((if k ≤ 3 then blocksB a n else decide (a = 0 ∧ n = 0)) && ((if k = 4 ∨ k = 5 ∨ k = 8 then idB i else decide (i = 0)) &&
    ((if k = 1 then decide ((d.length : Int) = n * 32) else if k = 6 then decide (1 ≤ d.length ∧ d.length ≤ 1000) else decide (d.length = 0)) &&
      (decide (l.length = 0) || (decide (k = 8) && folS l)))))
theorem chOk_1 (a n i : Int) (d : List Int) (l : List Ext) : chOk 1 a n i d l = (blocksB a n && (decide (i = 0) && (decide ((d.length : Int) = n * 32) && decide (l.length = 0)))) := by
  simp [chOk]
theorem chOk_2 {k : Int} (h : k = 2 ∨ k = 3) (a n i : Int) (d : List Int) (l : List Ext) : chOk k a n i d l = (blocksB a n && (decide (i = 0) && (decide (d.length = 0) && decide (l.length = 0)))) := by
  rcases h with rfl | rfl <;> simp [chOk]
theorem chOk_4 {k : Int} (h : k = 4 ∨ k = 5) (a n i : Int) (d : List Int) (l : List Ext) : chOk k a n i d l = (decide (a = 0 ∧ n = 0) && (idB i && (decide (d.length = 0) && decide (l.length = 0)))) := by
  rcases h with rfl | rfl <;> simp [chOk]
theorem chOk_6 (a n i : Int) (d : List Int) (l : List Ext) : chOk 6 a n i d l = (decide (a = 0 ∧ n = 0) && (decide (i = 0) && (decide (1 ≤ d.length ∧ d.length ≤ 1000) && decide (l.length = 0)))) := by
  simp [chOk]
theorem chOk_7 (a n i : Int) (d : List Int) (l : List Ext) : chOk 7 a n i d l = (decide (a = 0 ∧ n = 0) && (decide (i = 0) && (decide (d.length = 0) && decide (l.length = 0)))) := by
  simp [chOk]
theorem chOk_8 (a n i : Int) (d : List Int) (l : List Ext) : chOk 8 a n i d l = (decide (a = 0 ∧ n = 0) && (idB i && (decide (d.length = 0) && (decide (l.length = 0) || folS l)))) := by
  simp [chOk]
theorem chOk_not {k : Int} (h : ¬ (1 ≤ k ∧ k ≤ 8)) (a n i : Int) (d : List Int) (l : List Ext) : chOk k a n i d l = false := by
  rw [chOk, decide_eq_false h, Bool.false_and]
theorem chOk_iff {k a n i : Int} {d : List Int} {l : List Ext} : chOk k a n i d l = true ↔ (1 ≤ k ∧ k ≤ 8) ∧ (if k ≤ 3 then 0 ≤ a ∧ a ≤ 64 ∧ 1 ≤ n ∧ n ≤ 64 - a else a = 0 ∧ n = 0) ∧ (if k = 4 ∨ k = 5 ∨ k = 8 then 1 ≤ i ∧ i ≤ 2147483647 else i = 0) ∧ (if k = 1 then (d.length : Int) = n * 32 else if k = 6 then 1 ≤ d.length ∧ d.length ≤ 1000 else d.length = 0) ∧ (l.length = 0 ∨ (k = 8 ∧ folS l = true)) := by
  rw [chOk, Bool.and_eq_true, Bool.and_eq_true, Bool.and_eq_true, Bool.and_eq_true, Bool.or_eq_true, Bool.and_eq_true, decide_eq_true_eq, decide_eq_true_eq, decide_eq_true_eq, blocksB, idB]
  refine and_congr Iff.rfl (and_congr ?_ (and_congr ?_ (and_congr ?_ Iff.rfl)))
  · split <;> rw [decide_eq_true_eq]
  · split <;> rw [decide_eq_true_eq]
  · split
    · rw [decide_eq_true_eq]
    · split <;> rw [decide_eq_true_eq]
theorem chOk_lt {k a n i : Int} {d : List Int} {l : List Ext} (h : chOk k a n i d l = true) : (0 ≤ k ∧ k < 256) ∧ (0 ≤ a ∧ a < 256) ∧ (0 ≤ n ∧ n < 256) ∧ (0 ≤ i ∧ i < 4294967296) ∧ d.length ≤ 2048 ∧ (k ≠ 8 → l = []) := by
  obtain ⟨h1, h2, h3, h4, h5⟩ := chOk_iff.1 h
  refine ⟨by omega, ?_, ?_, ?_, ?_, fun hk => ?_⟩
  · split at h2 <;> omega
  · split at h2 <;> omega
  · split at h3 <;> omega
  · by_cases k1 : k = 1
    · rw [if_pos k1] at h4; rw [if_pos (by omega)] at h2; omega
    · rw [if_neg k1] at h4; split at h4 <;> omega
  · rcases h5 with h5 | h5
    · exact List.eq_nil_of_length_eq_zero h5
    · exact absurd h5.1 hk
theorem folB_ok : ∀ {t : Int} {l : List Ext}, folB t l = true → ∀ e ∈ l, eOk e = true
  | _, [], _, e, he => by cases he
  | t, x :: l, h, e, he => by
    rw [folB, Bool.and_eq_true, Bool.and_eq_true] at h
    rcases List.mem_cons.1 he with rfl | he
    · exact h.1
    · exact folB_ok h.2.2 e he
theorem folS_all {l : List Ext} (h : folS l = true) : eAll l = true := by
  rw [folS, Bool.and_eq_true, decide_eq_true_eq] at h
  exact eAll_iff.2 ⟨h.1, folB_ok h.2⟩
theorem chOk_all {k a n i : Int} {d : List Int} {l : List Ext} (h : chOk k a n i d l = true) : eAll l = true := by
  obtain ⟨h1, h2, h3, h4, h5⟩ := chOk_iff.1 h
  rcases h5 with h5 | h5
  · rw [List.eq_nil_of_length_eq_zero h5]; rfl
  · exact folS_all h5.2
def chForm : List Int := [98, 98, 98, 119, 104]
def chHead (k a n i m : Int) : List Int := leB 1 k.toNat ++ (leB 1 a.toNat ++ (leB 1 n.toNat ++ (leB 4 i.toNat ++ (leB 2 m.toNat ++ []))))
theorem chHead_length (k a n i m : Int) : (chHead k a n i m).length = 9 := by simp [chHead, leB_length]
theorem packP_chg {k a n i m : Int} (hk : k < 256) (ha : a < 256) (hn : n < 256) (hi : i < 4294967296) (hm : m < 65536) : packP chForm [k, a, n, i, m] = some (chHead k a n i m) := by
  rw [chForm, packP, packP, packP, packP, packP, packP]
  rw [show letS 98 = 1 from by decide, show letS 119 = 4 from by decide, show letS 104 = 2 from by decide]
  rw [if_pos (by rw [fits_1]; exact decide_eq_true hk), if_pos (by rw [fits_1]; exact decide_eq_true ha), if_pos (by rw [fits_1]; exact decide_eq_true hn), if_pos (by rw [fits_4]; exact decide_eq_true hi), if_pos (by rw [fits_2]; exact decide_eq_true hm)]
  rfl
theorem unpackS_chg {k a n i m : Int} (hk : 0 ≤ k ∧ k < 256) (ha : 0 ≤ a ∧ a < 256) (hn : 0 ≤ n ∧ n < 256) (hi : 0 ≤ i ∧ i < 4294967296) (hm : 0 ≤ m ∧ m < 65536) : unpackS chForm (chHead k a n i m) = ([k, a, n, i, m], 0) := by
  have := unpack_pack [] (u64B_iff.2 (by
    intro x hx
    simp only [List.mem_cons, List.not_mem_nil, or_false] at hx
    omega)) (packP_chg hk.2 ha.2 hn.2 hi.2 hm.2)
  rw [List.append_nil] at this
  exact unpackS_some this
theorem unpack_chg {b : List Int} (hb : byteB b = true) (h9 : 9 ≤ b.length) : ∃ n0 n1 n2 n3 n4, unpackS chForm (b.take 9) = ([n0, n1, n2, n3, n4], 0) ∧ (0 ≤ n0 ∧ n0 < 256) ∧ (0 ≤ n1 ∧ n1 < 256) ∧ (0 ≤ n2 ∧ n2 < 256) ∧ (0 ≤ n3 ∧ n3 < 4294967296) ∧ (0 ≤ n4 ∧ n4 < 65536) ∧ chHead n0 n1 n2 n3 n4 = b.take 9 := by
  have hz : formL chForm = 9 := by decide
  have hlen : (b.take 9).length = 9 := by rw [List.length_take]; omega
  obtain ⟨l, hl⟩ := unpackP_total chForm (b.take 9) (by decide) (by rw [hz, hlen]; exact Nat.le_refl _)
  rw [hz, List.drop_eq_nil_of_le (by rw [hlen]; exact Nat.le_refl _)] at hl
  have h4 := unpackP_length hl
  obtain ⟨n0, n1, n2, n3, n4, rfl⟩ : ∃ n0 n1 n2 n3 n4, l = [n0, n1, n2, n3, n4] := by
    match l, h4 with
    | [a, b, c, d, e], _ => exact ⟨a, b, c, d, e, rfl⟩
  obtain ⟨r, hr, hbr, hu⟩ := pack_unpack (byteB_take hb 9) hl
  rw [List.append_nil] at hbr
  have q0 := u64B_iff.1 hu n0 (by simp)
  have q1 := u64B_iff.1 hu n1 (by simp)
  have q2 := u64B_iff.1 hu n2 (by simp)
  have q3 := u64B_iff.1 hu n3 (by simp)
  have q4 := u64B_iff.1 hu n4 (by simp)
  have hr' := hr
  rw [chForm, packP, packP, packP, packP, packP] at hr
  split at hr
  case isFalse => cases hr
  rename_i h1
  split at hr
  case isFalse => cases hr
  rename_i h2
  split at hr
  case isFalse => cases hr
  rename_i h3
  split at hr
  case isFalse => cases hr
  rename_i h4
  split at hr
  case isFalse => cases hr
  rename_i h5
  rw [show letS 98 = 1 from by decide, fits_1, decide_eq_true_eq] at h1 h2 h3
  rw [show letS 119 = 4 from by decide, fits_4, decide_eq_true_eq] at h4
  rw [show letS 104 = 2 from by decide, fits_2, decide_eq_true_eq] at h5
  refine ⟨n0, n1, n2, n3, n4, unpackS_some hl, ⟨q0.1, h1⟩, ⟨q1.1, h2⟩, ⟨q2.1, h3⟩, ⟨q3.1, h4⟩, ⟨q4.1, h5⟩, ?_⟩
  rw [packP_chg h1 h2 h3 h4 h5] at hr'
  injection hr' with hr'
  rw [hr', hbr]
def chW (k a n i : Int) (d : List Int) (l : List Ext) : List Int := chHead k a n i (d.length : Int) ++ (d ++ (if k = 8 then extsW l else []))
def chwriteS (k a n i : Int) (d : List Int) (l : List Ext) : List Int × Int := if chOk k a n i d l = true then (chW k a n i d l, 0) else ([], 100)
def chBad : Int × Int × Int × Int × List Int × List Ext × Int := (0, 0, 0, 0, [], [], 100)
def chreadN (n0 n1 n2 n3 n4 : Int) (b : List Int) : Int × Int × Int × Int × List Int × List Ext × Int :=
  if b.length < 9 + n4.toNat then chBad else
    if n0 = 8 then (if (ereadS (b.drop (9 + n4.toNat))).2 = 0 ∧ chOk n0 n1 n2 n3 ((b.drop 9).take n4.toNat) (ereadS (b.drop (9 + n4.toNat))).1 = true then (n0, n1, n2, n3, (b.drop 9).take n4.toNat, (ereadS (b.drop (9 + n4.toNat))).1, 0) else chBad)
    else if b.length = 9 + n4.toNat ∧ chOk n0 n1 n2 n3 ((b.drop 9).take n4.toNat) [] = true then (n0, n1, n2, n3, (b.drop 9).take n4.toNat, [], 0) else chBad
def chreadS (b : List Int) : Int × Int × Int × Int × List Int × List Ext × Int :=
  if b.length < 9 then chBad else match (unpackS chForm (b.take 9)).1 with
    | [n0, n1, n2, n3, n4] => chreadN n0 n1 n2 n3 n4 b
    | _ => chBad
theorem chreadS_write {k a n i : Int} {d : List Int} {l : List Ext} (h : chOk k a n i d l = true) : chreadS (chW k a n i d l) = (k, a, n, i, d, l, 0) := by
  obtain ⟨hk, ha, hn, hi, hd, hl⟩ := chOk_lt h
  have hh : (chW k a n i d l).take 9 = chHead k a n i (d.length : Int) := by rw [chW, List.take_left' (chHead_length _ _ _ _ _)]
  have hr : (chW k a n i d l).drop 9 = d ++ (if k = 8 then extsW l else []) := by rw [chW, List.drop_left' (chHead_length _ _ _ _ _)]
  have hlen : (chW k a n i d l).length = 9 + d.length + (if k = 8 then extsW l else []).length := by rw [chW, List.length_append, List.length_append, chHead_length]; omega
  have hr2 : (chW k a n i d l).drop (9 + d.length) = (if k = 8 then extsW l else []) := by rw [← List.drop_drop, hr, List.drop_left]
  rw [chreadS, if_neg (by omega), hh, unpackS_chg hk ha hn hi ⟨by omega, by omega⟩]
  dsimp only
  rw [chreadN, Int.toNat_natCast, if_neg (by omega), hr, hr2, List.take_left]
  by_cases hk8 : k = 8
  · rw [if_pos hk8, if_pos hk8, ereadS_write (chOk_all h), if_pos ⟨rfl, h⟩]
  · obtain rfl := hl hk8
    rw [if_neg hk8, if_pos ⟨by rw [hlen, if_neg hk8, List.length_nil]; omega, h⟩]
theorem chreadS_cases {b : List Int} (hb : byteB b = true) : (∃ k a n i d l, chOk k a n i d l = true ∧ b = chW k a n i d l ∧ chreadS b = (k, a, n, i, d, l, 0)) ∨ ((∀ k a n i d l, chOk k a n i d l = true → b ≠ chW k a n i d l) ∧ chreadS b = chBad) := by
  by_cases hx : ∃ k a n i d l, chOk k a n i d l = true ∧ b = chW k a n i d l
  · obtain ⟨k, a, n, i, d, l, h, rfl⟩ := hx
    exact .inl ⟨k, a, n, i, d, l, h, rfl, chreadS_write h⟩
  refine .inr ⟨fun k a n i d l h e => hx ⟨k, a, n, i, d, l, h, e⟩, ?_⟩
  by_cases h9 : b.length < 9
  · rw [chreadS, if_pos h9]
  obtain ⟨n0, n1, n2, n3, n4, hu, q0, q1, q2, q3, q4, hh⟩ := unpack_chg hb (by omega)
  rw [chreadS, if_neg h9, hu]
  dsimp only
  rw [chreadN]
  by_cases hs : b.length < 9 + n4.toNat
  · rw [if_pos hs]
  have hbb : b = b.take 9 ++ ((b.drop 9).take n4.toNat ++ b.drop (9 + n4.toNat)) := by rw [← List.drop_drop, List.take_append_drop, List.take_append_drop]
  have hdl : ((b.drop 9).take n4.toNat).length = n4.toNat := by rw [List.length_take, List.length_drop]; omega
  rw [if_neg hs]
  by_cases h8 : n0 = 8
  · rw [if_pos h8]
    split
    case isFalse => rfl
    rename_i hc
    obtain ⟨hc1, hc2⟩ := hc
    exfalso
    rcases ereadS_cases (byteB_drop hb (9 + n4.toNat)) with ⟨l, he, hw, hr⟩ | ⟨-, hr⟩
    · rw [hr] at hc2
      refine hx ⟨n0, n1, n2, n3, _, l, hc2, ?_⟩
      rw [chW, if_pos h8, ← hw, hdl, Int.toNat_of_nonneg q4.1, hh]
      exact hbb
    · rw [hr] at hc1
      exact absurd hc1 (by decide)
  · rw [if_neg h8]
    split
    case isFalse => rfl
    rename_i hc
    obtain ⟨hc1, hc2⟩ := hc
    exfalso
    refine hx ⟨n0, n1, n2, n3, _, [], hc2, ?_⟩
    rw [chW, if_neg h8, hdl, Int.toNat_of_nonneg q4.1, hh, List.append_nil]
    rw [List.drop_eq_nil_of_le (show b.length ≤ 9 + n4.toNat by omega), List.append_nil] at hbb
    exact hbb
end Go.Proofs.Ytmgohkffphogdaa.Pl
