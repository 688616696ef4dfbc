/- Extents' own law: parts of them, and what is joined, in plain Lean. No program in sight. -/
import Derived.Test.YtmgohkffphogdaaExts
set_option linter.unusedVariables false
namespace Go.Proofs.Ytmgohkffphogdaa.Pl
/-- The data of blocks i to j. -/
def part (k : Int) (l : List Int) (i j : Int) : List Int := if k = 2 then (l.take (j * 32).toNat).drop (i * 32).toNat else []
theorem part_plain {k : Int} (h : k ≠ 2) (l : List Int) (i j : Int) : part k l i j = [] := if_neg h
theorem part_data {k : Int} (h : k = 2) (l : List Int) (i j : Int) : part k l i j = (l.take (j * 32).toNat).drop (i * 32).toNat := if_pos h
theorem part_all {a n k g : Int} {l : List Int} (h : extOk a n k g l = true) : part k l 0 n = l := by
  obtain ⟨h1, h2, h3, h4, h5, h6, h7, h8, h9⟩ := extOk_iff.1 h
  by_cases hk : k = 2
  · rw [if_pos hk] at h9
    rw [part_data hk, List.take_of_length_le (by omega), show ((0 : Int) * 32).toNat = 0 by omega, List.drop_zero]
  · rw [if_neg hk] at h9
    rw [part_plain hk]
    exact (List.eq_nil_of_length_eq_zero (by omega)).symm
theorem part_ok {a n k g : Int} {l : List Int} (h : extOk a n k g l = true) {i j : Int} (h0 : 0 ≤ i) (hij : i < j) (hj : j ≤ n) : extOk (a + i) (j - i) k g (part k l i j) = true := by
  obtain ⟨h1, h2, h3, h4, h5, h6, h7, h8, h9⟩ := extOk_iff.1 h
  refine extOk_iff.2 ⟨by omega, by omega, by omega, by omega, h5, h6, h7, h8, ?_⟩
  by_cases hk : k = 2
  · rw [if_pos hk] at h9
    rw [part_data hk, if_pos hk, List.length_drop, List.length_take]
    omega
  · rw [part_plain hk, if_neg hk]
    rfl
theorem part_join {a n k g : Int} {l : List Int} (h : extOk a n k g l = true) {i j m : Int} (h0 : 0 ≤ i) (hij : i ≤ j) (hjm : j ≤ m) (hm : m ≤ n) : part k l i j ++ part k l j m = part k l i m := by
  obtain ⟨h1, h2, h3, h4, h5, h6, h7, h8, h9⟩ := extOk_iff.1 h
  by_cases hk : k = 2
  · rw [if_pos hk] at h9
    rw [part_data hk, part_data hk, part_data hk]
    have e : l.take (j * 32).toNat = (l.take (m * 32).toNat).take (j * 32).toNat := by rw [List.take_take, Nat.min_eq_left (by omega)]
    rw [e]
    have hl : (i * 32).toNat ≤ ((l.take (m * 32).toNat).take (j * 32).toNat).length := by rw [List.length_take, List.length_take]; omega
    rw [← List.drop_append_of_le_length hl, List.take_append_drop]
  · rw [part_plain hk, part_plain hk, part_plain hk, List.append_nil]
theorem part_part {k : Int} (l : List Int) {i j p q : Int} (h0 : 0 ≤ i) (hp : 0 ≤ p) (hpq : p ≤ q) (hq : i + q ≤ j) : part k (part k l i j) p q = part k l (i + p) (i + q) := by
  by_cases hk : k = 2
  · rw [part_data hk, part_data hk, part_data hk, List.take_drop, List.take_take, Nat.min_eq_left (by omega), List.drop_drop]
    rw [show (i * 32).toNat + (q * 32).toNat = ((i + q) * 32).toNat by omega, show (i * 32).toNat + (p * 32).toNat = ((i + p) * 32).toNat by omega]
  · rw [part_plain hk, part_plain hk]
theorem cut_eq {a n k g : Int} {l : List Int} (h : extOk a n k g l = true) {b m : Int} (b0 : 0 ≤ b) (b1 : b ≤ 64) (m0 : 0 ≤ m) (m1 : m ≤ 64) : cutS a n k g l b m = if max a b < min (a + n) (b + m) then (max a b, min (a + n) (b + m) - max a b, k, g, part k l (max a b - a) (min (a + n) (b + m) - a), true) else (0, 0, 0, 0, [], false) := by
  rw [cutS]
  by_cases hc : max a b < min (a + n) (b + m)
  · rw [if_pos ⟨h, b0, b1, m0, m1, hc⟩, if_pos hc]
    rfl
  · rw [if_neg (fun hh => hc hh.2.2.2.2.2), if_neg hc]
/-- The part from block a + i to block a + j. -/
theorem cut_at {a n k g : Int} {l : List Int} (h : extOk a n k g l = true) {b m i j : Int} (b0 : 0 ≤ b) (b1 : b ≤ 64) (m0 : 0 ≤ m) (m1 : m ≤ 64) (hi : max a b = a + i) (hj : min (a + n) (b + m) = a + j) (hij : i < j) : cutS a n k g l b m = (a + i, j - i, k, g, part k l i j, true) := by
  rw [cut_eq h b0 b1 m0 m1, if_pos (by omega), hi, hj, show a + j - (a + i) = j - i by omega, show a + i - a = i by omega, show a + j - a = j by omega]
theorem cut_none {a n k g : Int} {l : List Int} {b m : Int} (h : ¬ max a b < min (a + n) (b + m)) : cutS a n k g l b m = (0, 0, 0, 0, [], false) := by
  rw [cutS, if_neg (fun hh => h hh.2.2.2.2.2)]
theorem cut_bad {a n k g : Int} {l : List Int} {b m : Int} (h : extOk a n k g l ≠ true) : cutS a n k g l b m = (0, 0, 0, 0, [], false) := by
  rw [cutS, if_neg (fun hh => h hh.1)]
/-- What a cut says, if there is one. -/
theorem cut_true {a n k g : Int} {l : List Int} {b m : Int} (h : (cutS a n k g l b m).2.2.2.2.2 = true) : extOk a n k g l = true ∧ 0 ≤ b ∧ b ≤ 64 ∧ 0 ≤ m ∧ m ≤ 64 ∧ max a b < min (a + n) (b + m) ∧ cutS a n k g l b m = (max a b, min (a + n) (b + m) - max a b, k, g, part k l (max a b - a) (min (a + n) (b + m) - a), true) := by
  rw [cutS] at h
  split at h
  case isFalse => cases h
  rename_i hc
  refine ⟨hc.1, hc.2.1, hc.2.2.1, hc.2.2.2.1, hc.2.2.2.2.1, hc.2.2.2.2.2, ?_⟩
  rw [cut_eq hc.1 hc.2.1 hc.2.2.1 hc.2.2.2.1 hc.2.2.2.2.1, if_pos hc.2.2.2.2.2]
theorem cut_false {a n k g : Int} {l : List Int} {b m : Int} (h : (cutS a n k g l b m).2.2.2.2.2 ≠ true) : cutS a n k g l b m = (0, 0, 0, 0, [], false) := by
  rw [cutS] at h ⊢
  split
  · rename_i hc; rw [if_pos hc] at h; exact absurd rfl h
  · rfl
theorem part_byte {k : Int} {l : List Int} (h : byteB l = true) (i j : Int) : byteB (part k l i j) = true := by
  rw [part]
  split
  · exact byteB_drop (byteB_take h _) _
  · rfl
theorem cut_byte {a n k g : Int} {l : List Int} {b m : Int} (h : byteB l = true) : byteB (cutS a n k g l b m).2.2.2.2.1 = true := by
  by_cases hc : (cutS a n k g l b m).2.2.2.2.2 = true
  · rw [(cut_true hc).2.2.2.2.2.2]; exact part_byte h _ _
  · rw [cut_false hc]; rfl
theorem join_byte {a n k g : Int} {l : List Int} {a' n' k' g' : Int} {l' : List Int} (h : byteB l = true) (h' : byteB l' = true) : byteB (joinS a n k g l a' n' k' g' l').2.2.2.2.1 = true := by
  rw [joinS]
  split
  · show byteB (l ++ l') = true
    rw [byteB_append, h, h']; rfl
  · rfl
theorem extBytes_byte {a n k g : Int} {l : List Int} (h : byteB l = true) : byteB (extBytes a n k g l) = true := by
  rw [extBytes]
  split
  · rw [byteB_append, h, Bool.true_and]
    exact byteB_iff.2 fun x hx => by rw [(List.mem_replicate.1 hx).2]; decide
  · rfl
theorem extBytes_none {a n k g : Int} {l : List Int} (h : extOk a n k g l ≠ true) : extBytes a n k g l = [] := by rw [extBytes, if_neg h]
theorem extBytes_part {a n k g : Int} {l : List Int} (h : extOk a n k g l = true) {i j : Int} (h0 : 0 ≤ i) (hij : i < j) (hj : j ≤ n) : extBytes (a + i) (j - i) k g (part k l i j) = ((extBytes a n k g l).take (j * 32).toNat).drop (i * 32).toNat := by
  have hp := part_ok h h0 hij hj
  by_cases hk : k = 2
  · rw [extBytes_data hp hk, extBytes_data h hk, part_data hk]
  · rw [extBytes_plain hp hk, extBytes_plain h hk, List.take_replicate, List.drop_replicate]
    congr 1
    omega
theorem extBytes_join {a n k g : Int} {l : List Int} {a' n' : Int} {l' : List Int} (h : extOk a n k g l = true) (h' : extOk a' n' k g l' = true) (hj : extOk a (n + n') k g (l ++ l') = true) : extBytes a (n + n') k g (l ++ l') = extBytes a n k g l ++ extBytes a' n' k g l' := by
  have q := extOk_iff.1 h
  have q' := extOk_iff.1 h'
  by_cases hk : k = 2
  · rw [extBytes_data h hk, extBytes_data h' hk, extBytes_data hj hk]
  · rw [extBytes_plain h hk, extBytes_plain h' hk, extBytes_plain hj hk, List.replicate_append_replicate]
    congr 1
    omega
/-- What joins is one that may be. -/
theorem join_ok {a n k g : Int} {l : List Int} {a' n' k' g' : Int} {l' : List Int} (h : joinsB a n k g l a' n' k' g' l' = true) : extOk a (n + n') k g (l ++ l') = true := by
  obtain ⟨ho, ho', e1, e2, e3⟩ := joinsB_iff.1 h
  subst e2
  obtain ⟨h1, h2, h3, h4, h5, h6, h7, h8, h9⟩ := extOk_iff.1 ho
  obtain ⟨h1', h2', h3', h4', h5', h6', h7', h8', h9'⟩ := extOk_iff.1 ho'
  refine extOk_iff.2 ⟨h1, h2, by omega, by omega, h5, h6, h7, h8, ?_⟩
  rw [List.length_append]
  by_cases hk : k = 2
  · rw [if_pos hk] at h9 h9' ⊢; omega
  · rw [if_neg hk] at h9 h9' ⊢; omega
theorem join_parts {a n k g : Int} {l : List Int} (h : extOk a n k g l = true) {i j m : Int} (h0 : 0 ≤ i) (hij : i < j) (hjm : j < m) (hm : m ≤ n) : joinsB (a + i) (j - i) k g (part k l i j) (a + j) (m - j) k g (part k l j m) = true ∧ joinS (a + i) (j - i) k g (part k l i j) (a + j) (m - j) k g (part k l j m) = (a + i, m - i, k, g, part k l i m, 0) := by
  have hb : joinsB (a + i) (j - i) k g (part k l i j) (a + j) (m - j) k g (part k l j m) = true := joinsB_iff.2 ⟨part_ok h h0 hij (by omega), part_ok h (by omega) hjm hm, by omega, rfl, rfl⟩
  refine ⟨hb, ?_⟩
  rw [joinS, if_pos hb, part_join h h0 (by omega) (by omega) hm, show j - i + (m - j) = m - i by omega]
theorem join_not {a n k g : Int} {l : List Int} {a' n' k' g' : Int} {l' : List Int} (h : joinsB a n k g l a' n' k' g' l' ≠ true) : joinS a n k g l a' n' k' g' l' = (0, 0, 0, 0, [], 70) := by rw [joinS, if_neg h]
/-- Lists of just so many extents that begin alike are alike. -/
theorem extsB_prefix : ∀ (l m : List Ext) (t : List Int), (∀ e ∈ l, eOk e = true) → (∀ e ∈ m, eOk e = true) → l.length = m.length → extsB l = extsB m ++ t → t = []
  | [], [], t, _, _, _, h => by rw [extsB, List.nil_append] at h; exact h.symm
  | [], _ :: _, _, _, _, hn, _ => by rw [List.length_cons, List.length_nil] at hn; omega
  | _ :: _, [], _, _, _, hn, _ => by rw [List.length_cons, List.length_nil] at hn; omega
  | e :: l, f :: m, t, hl, hm, hn, h => by
    rw [extsB, extsB, List.append_assoc] at h
    have h1 := extStep_extW (extsB l) (hl e List.mem_cons_self)
    have h2 := extStep_extW (extsB m ++ t) (hm f List.mem_cons_self)
    rw [h, h2] at h1
    injection h1 with h1
    injection h1 with _ h1
    exact extsB_prefix l m t (fun x hx => hl x (List.mem_cons_of_mem _ hx)) (fun x hx => hm x (List.mem_cons_of_mem _ hx)) (by rw [List.length_cons, List.length_cons] at hn; omega) h1.symm
/-- Fewer of their bytes are none. -/
theorem ereadS_few {l : List Ext} (he : eAll l = true) (hb : byteB (extsW l) = true) {j : Nat} (hj : j < (extsW l).length) : ereadS ((extsW l).take j) = ([], 70) := by
  rcases ereadS_cases (byteB_take hb j) with ⟨m, hm, hw, -⟩ | ⟨-, h⟩
  · exfalso
    have hlen := congrArg List.length hw
    rw [List.length_take, Nat.min_eq_left (Nat.le_of_lt hj)] at hlen
    have h : extsW l = extsW m ++ (extsW l).drop j := by rw [← hw, List.take_append_drop]
    obtain ⟨h1, h2⟩ := eAll_iff.1 he
    obtain ⟨h3, h4⟩ := eAll_iff.1 hm
    obtain ⟨t, ht⟩ : ∃ t, t = (extsW l).drop j := ⟨_, rfl⟩
    have htl := congrArg List.length ht
    rw [List.length_drop] at htl
    rw [← ht, extsW, extsW, List.cons_append] at h
    injection h with h5 h6
    have := extsB_prefix l m t h2 h4 (by omega) h6
    rw [this, List.length_nil] at htl
    omega
  · exact h
theorem extsW_byte {l : List Ext} (he : eAll l = true) (hb : ∀ e ∈ l, byteB e.2.2.2.2 = true) : byteB (extsW l) = true := by
  have h64 := (eAll_iff.1 he).1
  refine byteB_iff.2 fun x hx => ?_
  rcases List.mem_cons.1 hx with rfl | hx
  · omega
  · exact byteB_iff.1 (extsB_byte hb) x hx
theorem extsB_le : ∀ {l : List Ext}, (∀ e ∈ l, eOk e = true) → (extsB l).length ≤ 2055 * l.length
  | [], _ => Nat.zero_le _
  | e :: l, h => by
    have h1 := extOk_len (show extOk e.1 e.2.1 e.2.2.1 e.2.2.2.1 e.2.2.2.2 = true from h e List.mem_cons_self)
    have h2 := extsB_le fun x hx => h x (List.mem_cons_of_mem _ hx)
    rw [extsB, List.length_append, extW_length, List.length_cons]
    omega
theorem extsW_le {l : List Ext} (he : eAll l = true) : (extsW l).length ≤ 140000 := by
  obtain ⟨h1, h2⟩ := eAll_iff.1 he
  have := extsB_le h2
  rw [extsW, List.length_cons]
  omega
theorem ereadS_byte {b : List Int} (hb : byteB b = true) : (∀ e ∈ (ereadS b).1, byteB e.2.2.2.2 = true) ∧ (ereadS b).1.length ≤ 64 := by
  rcases ereadS_cases hb with ⟨l, he, hw, hr⟩ | ⟨-, hr⟩
  · rw [hr]
    refine ⟨fun e hm => ?_, (eAll_iff.1 he).1⟩
    rw [hw, extsW] at hb
    exact extsB_data (byteB_iff.2 fun x hx => byteB_iff.1 hb x (List.mem_cons_of_mem _ hx)) e hm
  · rw [hr]
    exact ⟨fun e hm => absurd hm List.not_mem_nil, Nat.zero_le _⟩
end Go.Proofs.Ytmgohkffphogdaa.Pl
