/- Words and walks that this claim names, of those that the kit's print and programs of this workplace have printed. -/
import Derived.Test.YtohkmmbmfhficaaZTExts
set_option linter.unusedVariables false
namespace Go.Proofs.Ytohkmmbmfhficaa.Pl
def part (k : Int) (l : List Int) (i j : Int) : List Int := if k = 2 then (l.take (j * 32).toNat).drop (i * 32).toNat else []
theorem part_plain {k : Int} (h : k ≠ 2) (l : List Int) (i j : Int) : part k l i j = [] := if_neg h
theorem part_data {k : Int} (h : k = 2) (l : List Int) (i j : Int) : part k l i j = (l.take (j * 32).toNat).drop (i * 32).toNat := if_pos h
theorem part_all {a n k g : Int} {l : List Int} (h : extOk a n k g l = true) : part k l 0 n = l := by
  obtain ⟨h1, h2, h3, h4, h5, h6, h7, h8, h9⟩ := extOk_iff.1 h
  by_cases hk : k = 2
  ·rw [if_pos hk] at h9
   rw [part_data hk, List.take_of_length_le (by omega), show ((0 : Int) * 32).toNat = 0 by omega, List.drop_zero]
  rw [if_neg hk] at h9
  rw [part_plain hk]
  exact (List.eq_nil_of_length_eq_zero (by omega)).symm
theorem cut_eq {a n k g : Int} {l : List Int} (h : extOk a n k g l = true) {b m : Int} (b0 : 0 ≤ b) (b1 : b ≤ 64) (m0 : 0 ≤ m) (m1 : m ≤ 64) : cutS a n k g l b m = if max a b < min (a + n) (b + m) then (max a b, min (a + n) (b + m) - max a b, k, g, part k l (max a b - a) (min (a + n) (b + m) - a), true) else (0, 0, 0, 0, [], false) := by
  rw [cutS]
  by_cases hc : max a b < min (a + n) (b + m)
  ·rw [if_pos ⟨h, b0, b1, m0, m1, hc⟩, if_pos hc]
   rfl
  rw [if_neg (fun hh => hc hh.2.2.2.2.2), if_neg hc]
theorem cut_at {a n k g : Int} {l : List Int} (h : extOk a n k g l = true) {b m i j : Int} (b0 : 0 ≤ b) (b1 : b ≤ 64) (m0 : 0 ≤ m) (m1 : m ≤ 64) (hi : max a b = a + i) (hj : min (a + n) (b + m) = a + j) (hij : i < j) : cutS a n k g l b m = (a + i, j - i, k, g, part k l i j, true) := by
  rw [cut_eq h b0 b1 m0 m1, if_pos (by omega), hi, hj, show a + j - (a + i) = j - i by omega, show a + i - a = i by omega, show a + j - a = j by omega]
theorem join_ok {a n k g : Int} {l : List Int} {a' n' k' g' : Int} {l' : List Int} (h : joinsB a n k g l a' n' k' g' l' = true) : extOk a (n + n') k g (l ++ l') = true := by
  obtain ⟨ho, ho', e1, e2, e3⟩ := joinsB_iff.1 h
  subst e2
  obtain ⟨h1, h2, h3, h4, h5, h6, h7, h8, h9⟩ := extOk_iff.1 ho
  obtain ⟨h1', h2', h3', h4', h5', h6', h7', h8', h9'⟩ := extOk_iff.1 ho'
  refine extOk_iff.2 ⟨h1, h2, by omega, by omega, h5, h6, h7, h8, ?_⟩
  rw [List.length_append]
  by_cases hk : k = 2
  ·rw [if_pos hk] at h9 h9' ⊢; omega
  rw [if_neg hk] at h9 h9' ⊢; omega
end Go.Proofs.Ytohkmmbmfhficaa.Pl
