/- Words and walks that this claim names, of those that the kit's print and programs of this workplace have printed. -/
import Derived.Test.YtcemlfkboifncaaZPExts
set_option linter.unusedVariables false
namespace Go.Proofs.Ytcemlfkboifncaa.Pl
def part (k : Int) (l : List Int) (i j : Int) : List Int := if k = 2 then (l.take (j * 32).toNat).drop (i * 32).toNat else []
theorem part_plain {k : Int} (h : k ≠ 2) (l : List Int) (i j : Int) : part k l i j = [] := if_neg h
theorem part_data {k : Int} (h : k = 2) (l : List Int) (i j : Int) : part k l i j = (l.take (j * 32).toNat).drop (i * 32).toNat := if_pos h
theorem part_all {a n k g : Int} {l : List Int} (h : extOk a n k g l = true) : part k l 0 n = l := by
  obtain ⟨h1, h2, h3, h4, h5, h6, h7, h8, h9⟩ := extOk_iff.1 h
  by_cases hk : k = 2
  · rw [if_pos hk] at h9
    rw [part_data hk, List.take_of_length_le (by omega), show ((0 : Int) * 32).toNat = 0 by omega, List.drop_zero]
  · rw [if_neg hk] at h9
    rw [part_plain hk]
    exact (List.eq_nil_of_length_eq_zero (by omega)).symm
theorem part_ok {a n k g : Int} {l : List Int} (h : extOk a n k g l = true) {i j : Int} (h0 : 0 ≤ i) (hij : i < j) (hj : j ≤ n) : extOk (a + i) (j - i) k g (part k l i j) = true := by
  obtain ⟨h1, h2, h3, h4, h5, h6, h7, h8, h9⟩ := extOk_iff.1 h
  refine extOk_iff.2 ⟨by omega, by omega, by omega, by omega, h5, h6, h7, h8, ?_⟩
  by_cases hk : k = 2
  · rw [if_pos hk] at h9
    rw [part_data hk, if_pos hk, List.length_drop, List.length_take]
    omega
  · rw [part_plain hk, if_neg hk]
    rfl
theorem part_join {a n k g : Int} {l : List Int} (h : extOk a n k g l = true) {i j m : Int} (h0 : 0 ≤ i) (hij : i ≤ j) (hjm : j ≤ m) (hm : m ≤ n) : part k l i j ++ part k l j m = part k l i m := by
  obtain ⟨h1, h2, h3, h4, h5, h6, h7, h8, h9⟩ := extOk_iff.1 h
  by_cases hk : k = 2
  · rw [if_pos hk] at h9
    rw [part_data hk, part_data hk, part_data hk]
    have e : l.take (j * 32).toNat = (l.take (m * 32).toNat).take (j * 32).toNat := by rw [List.take_take, Nat.min_eq_left (by omega)]
    rw [e]
    have hl : (i * 32).toNat ≤ ((l.take (m * 32).toNat).take (j * 32).toNat).length := by rw [List.length_take, List.length_take]; omega
    rw [← List.drop_append_of_le_length hl, List.take_append_drop]
  · rw [part_plain hk, part_plain hk, part_plain hk, List.append_nil]
theorem part_part {k : Int} (l : List Int) {i j p q : Int} (h0 : 0 ≤ i) (hp : 0 ≤ p) (hpq : p ≤ q) (hq : i + q ≤ j) : part k (part k l i j) p q = part k l (i + p) (i + q) := by
  by_cases hk : k = 2
  · rw [part_data hk, part_data hk, part_data hk, List.take_drop, List.take_take, Nat.min_eq_left (by omega), List.drop_drop]
    rw [show (i * 32).toNat + (q * 32).toNat = ((i + q) * 32).toNat by omega, show (i * 32).toNat + (p * 32).toNat = ((i + p) * 32).toNat by omega]
  · rw [part_plain hk, part_plain hk]
theorem cut_eq {a n k g : Int} {l : List Int} (h : extOk a n k g l = true) {b m : Int} (b0 : 0 ≤ b) (b1 : b ≤ 64) (m0 : 0 ≤ m) (m1 : m ≤ 64) : cutS a n k g l b m = if max a b < min (a + n) (b + m) then (max a b, min (a + n) (b + m) - max a b, k, g, part k l (max a b - a) (min (a + n) (b + m) - a), true) else (0, 0, 0, 0, [], false) := by
  rw [cutS]
  by_cases hc : max a b < min (a + n) (b + m)
  · rw [if_pos ⟨h, b0, b1, m0, m1, hc⟩, if_pos hc]
    rfl
  · rw [if_neg (fun hh => hc hh.2.2.2.2.2), if_neg hc]
theorem cut_at {a n k g : Int} {l : List Int} (h : extOk a n k g l = true) {b m i j : Int} (b0 : 0 ≤ b) (b1 : b ≤ 64) (m0 : 0 ≤ m) (m1 : m ≤ 64) (hi : max a b = a + i) (hj : min (a + n) (b + m) = a + j) (hij : i < j) : cutS a n k g l b m = (a + i, j - i, k, g, part k l i j, true) := by
  rw [cut_eq h b0 b1 m0 m1, if_pos (by omega), hi, hj, show a + j - (a + i) = j - i by omega, show a + i - a = i by omega, show a + j - a = j by omega]
theorem cut_none {a n k g : Int} {l : List Int} {b m : Int} (h : ¬ max a b < min (a + n) (b + m)) : cutS a n k g l b m = (0, 0, 0, 0, [], false) := by
  rw [cutS, if_neg (fun hh => h hh.2.2.2.2.2)]
theorem cut_bad {a n k g : Int} {l : List Int} {b m : Int} (h : extOk a n k g l ≠ true) : cutS a n k g l b m = (0, 0, 0, 0, [], false) := by
  rw [cutS, if_neg (fun hh => h hh.1)]
theorem cut_true {a n k g : Int} {l : List Int} {b m : Int} (h : (cutS a n k g l b m).2.2.2.2.2 = true) : extOk a n k g l = true ∧ 0 ≤ b ∧ b ≤ 64 ∧ 0 ≤ m ∧ m ≤ 64 ∧ max a b < min (a + n) (b + m) ∧ cutS a n k g l b m = (max a b, min (a + n) (b + m) - max a b, k, g, part k l (max a b - a) (min (a + n) (b + m) - a), true) := by
  rw [cutS] at h
  split at h
  case isFalse => cases h
  rename_i hc
  refine ⟨hc.1, hc.2.1, hc.2.2.1, hc.2.2.2.1, hc.2.2.2.2.1, hc.2.2.2.2.2, ?_⟩
  rw [cut_eq hc.1 hc.2.1 hc.2.2.1 hc.2.2.2.1 hc.2.2.2.2.1, if_pos hc.2.2.2.2.2]
theorem cut_false {a n k g : Int} {l : List Int} {b m : Int} (h : (cutS a n k g l b m).2.2.2.2.2 ≠ true) : cutS a n k g l b m = (0, 0, 0, 0, [], false) := by
  rw [cutS] at h ⊢
  split
  · rename_i hc; rw [if_pos hc] at h; exact absurd rfl h
  · rfl
theorem part_byte {k : Int} {l : List Int} (h : byteB l = true) (i j : Int) : byteB (part k l i j) = true := by
  rw [part]
  split
  · exact byteB_drop (byteB_take h _) _
  · rfl
theorem cut_byte {a n k g : Int} {l : List Int} {b m : Int} (h : byteB l = true) : byteB (cutS a n k g l b m).2.2.2.2.1 = true := by
  by_cases hc : (cutS a n k g l b m).2.2.2.2.2 = true
  · rw [(cut_true hc).2.2.2.2.2.2]; exact part_byte h _ _
  · rw [cut_false hc]; rfl
theorem extBytes_join {a n k g : Int} {l : List Int} {a' n' : Int} {l' : List Int} (h : extOk a n k g l = true) (h' : extOk a' n' k g l' = true) (hj : extOk a (n + n') k g (l ++ l') = true) : extBytes a (n + n') k g (l ++ l') = extBytes a n k g l ++ extBytes a' n' k g l' := by
  have q := extOk_iff.1 h
  have q' := extOk_iff.1 h'
  by_cases hk : k = 2
  · rw [extBytes_data h hk, extBytes_data h' hk, extBytes_data hj hk]
  · rw [extBytes_plain h hk, extBytes_plain h' hk, extBytes_plain hj hk, List.replicate_append_replicate]
    congr 1
    omega
theorem join_ok {a n k g : Int} {l : List Int} {a' n' k' g' : Int} {l' : List Int} (h : joinsB a n k g l a' n' k' g' l' = true) : extOk a (n + n') k g (l ++ l') = true := by
  obtain ⟨ho, ho', e1, e2, e3⟩ := joinsB_iff.1 h
  subst e2
  obtain ⟨h1, h2, h3, h4, h5, h6, h7, h8, h9⟩ := extOk_iff.1 ho
  obtain ⟨h1', h2', h3', h4', h5', h6', h7', h8', h9'⟩ := extOk_iff.1 ho'
  refine extOk_iff.2 ⟨h1, h2, by omega, by omega, h5, h6, h7, h8, ?_⟩
  rw [List.length_append]
  by_cases hk : k = 2
  · rw [if_pos hk] at h9 h9' ⊢; omega
  · rw [if_neg hk] at h9 h9' ⊢; omega
theorem join_parts {a n k g : Int} {l : List Int} (h : extOk a n k g l = true) {i j m : Int} (h0 : 0 ≤ i) (hij : i < j) (hjm : j < m) (hm : m ≤ n) : joinsB (a + i) (j - i) k g (part k l i j) (a + j) (m - j) k g (part k l j m) = true ∧ joinS (a + i) (j - i) k g (part k l i j) (a + j) (m - j) k g (part k l j m) = (a + i, m - i, k, g, part k l i m, 0) := by
  have hb : joinsB (a + i) (j - i) k g (part k l i j) (a + j) (m - j) k g (part k l j m) = true := joinsB_iff.2 ⟨part_ok h h0 hij (by omega), part_ok h (by omega) hjm hm, by omega, rfl, rfl⟩
  refine ⟨hb, ?_⟩
  rw [joinS, if_pos hb, part_join h h0 (by omega) (by omega) hm, show j - i + (m - j) = m - i by omega]
end Go.Proofs.Ytcemlfkboifncaa.Pl
