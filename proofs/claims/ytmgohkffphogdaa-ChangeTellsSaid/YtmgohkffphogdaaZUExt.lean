/- Words and walks that this claim names, of those that the kit's print and programs of this workplace have printed. -/
import Derived.Test.YtmgohkffphogdaaZURec
namespace Go.Proofs.Ytmgohkffphogdaa.Pl
def extOk (a n k g : Int) (l : List Int) : Bool := decide (0 ≤ a ∧ a ≤ 64 ∧ 1 ≤ n ∧ n ≤ 64 - a ∧ 0 ≤ k ∧ k ≤ 2 ∧ 0 ≤ g ∧ g ≤ 2147483647 ∧ (l.length : Int) = if k = 2 then n * 32 else 0)
theorem extOk_iff {a n k g : Int} {l : List Int} : extOk a n k g l = true ↔ 0 ≤ a ∧ a ≤ 64 ∧ 1 ≤ n ∧ n ≤ 64 - a ∧ 0 ≤ k ∧ k ≤ 2 ∧ 0 ≤ g ∧ g ≤ 2147483647 ∧ (l.length : Int) = if k = 2 then n * 32 else 0 := by
  simp only [extOk, decide_eq_true_eq]
def extForm : List Int := [98, 98, 98, 119]
theorem unpack_ext {b : List Int} (hb : byteB b = true) (h7 : 7 ≤ b.length) : ∃ n0 n1 n2 n3, unpackS extForm (b.take 7) = ([n0, n1, n2, n3], 0) ∧ u64B [n0, n1, n2, n3] = true ∧ packP extForm [n0, n1, n2, n3] = some (b.take 7) := by
  have hz : formL extForm = 7 := by decide
  have hlen : (b.take 7).length = 7 := by rw [List.length_take]; omega
  obtain ⟨l, hl⟩ := unpackP_total extForm (b.take 7) (by decide) (by rw [hz, hlen]; exact Nat.le_refl _)
  rw [hz, List.drop_eq_nil_of_le (by rw [hlen]; exact Nat.le_refl _)] at hl
  have h4 := unpackP_length hl
  obtain ⟨n0, n1, n2, n3, rfl⟩ : ∃ n0 n1 n2 n3, l = [n0, n1, n2, n3] := by
    match l, h4 with
    | [a, b, c, d], _ => exact ⟨a, b, c, d, rfl⟩
  obtain ⟨r, hr, hbr, hu⟩ := pack_unpack (byteB_take hb 7) hl
  rw [List.append_nil] at hbr
  exact ⟨n0, n1, n2, n3, unpackS_some hl, hu, by rw [hr, hbr]⟩
theorem ext_bounds {n0 n1 n2 n3 : Int} {r : List Int} (h : packP extForm [n0, n1, n2, n3] = some r) : n0 < 256 ∧ n1 < 256 ∧ n2 < 256 ∧ n3 < 4294967296 := by
  rw [extForm, packP, packP, packP, packP] at h
  split at h
  case isFalse => cases h
  rename_i h1
  split at h
  case isFalse => cases h
  rename_i h2
  split at h
  case isFalse => cases h
  rename_i h3
  split at h
  case isFalse => cases h
  rename_i h4
  rw [show letS 98 = 1 from by decide, fits_1, decide_eq_true_eq] at h1 h2 h3
  rw [show letS 119 = 4 from by decide, fits_4, decide_eq_true_eq] at h4
  exact ⟨h1, h2, h3, h4⟩
def extStep (b : List Int) : Option ((Int × Int × Int × Int × List Int) × List Int) :=
  if b.length < 7 then none else
    match (unpackS extForm (b.take 7)).1 with
    | [n0, n1, n2, n3] =>
      let k := if n2 = 2 then (n1 * 32).toNat else 0
      let z := b.drop 7
      let d := if 0 < k ∧ k ≤ z.length then z.take k else []
      let r := if 0 < k ∧ k ≤ z.length then z.drop k else z
      if extOk n0 n1 n2 n3 d = true then some ((n0, n1, n2, n3, d), r) else none
    | _ => none
end Go.Proofs.Ytmgohkffphogdaa.Pl
