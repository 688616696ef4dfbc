/- Words and walks that this claim names, of those that the kit's print and programs of this workplace have printed. -/
import Derived.Test.YtohkmmbmfhficaaZTExt
set_option linter.unusedVariables false
namespace Go.Proofs.Ytohkmmbmfhficaa.Pl
abbrev Ext := Int × Int × Int × Int × List Int
def eOk (e : Ext) : Bool := extOk e.1 e.2.1 e.2.2.1 e.2.2.2.1 e.2.2.2.2
theorem extOk_len {a n k g : Int} {l : List Int} (h : extOk a n k g l = true) : l.length ≤ 2048 := by
  obtain ⟨h1, h2, h3, h4, h5, h6, h7, h8, h9⟩ := extOk_iff.1 h
  by_cases hk : k = 2
  ·rw [if_pos hk] at h9; omega
  rw [if_neg hk] at h9; omega
def joinsB (a n k g : Int) (l : List Int) (a' n' k' g' : Int) (l' : List Int) : Bool := extOk a n k g l && (extOk a' n' k' g' l' && decide (a + n = a' ∧ k = k' ∧ g = g'))
theorem joinsB_iff {a n k g : Int} {l : List Int} {a' n' k' g' : Int} {l' : List Int} : joinsB a n k g l a' n' k' g' l' = true ↔ extOk a n k g l = true ∧ extOk a' n' k' g' l' = true ∧ a + n = a' ∧ k = k' ∧ g = g' := by
  rw [joinsB, Bool.and_eq_true, Bool.and_eq_true, decide_eq_true_eq]
def joinS (a n k g : Int) (l : List Int) (a' n' k' g' : Int) (l' : List Int) : Int × Int × Int × Int × List Int × Int := if joinsB a n k g l a' n' k' g' l' = true then (a, n + n', k, g, l ++ l', 0) else (0, 0, 0, 0, [], 70)
def cutS (a n k g : Int) (l : List Int) (b m : Int) : Int × Int × Int × Int × List Int × Bool :=
  if extOk a n k g l = true ∧ 0 ≤ b ∧ b ≤ 64 ∧ 0 ≤ m ∧ m ≤ 64 ∧ max a b < min (a + n) (b + m) then
    (max a b, min (a + n) (b + m) - max a b, k, g, if k = 2 then (l.take ((min (a + n) (b + m) - a) * 32).toNat).drop ((max a b - a) * 32).toNat else [], true)
  else (0, 0, 0, 0, [], false)
end Go.Proofs.Ytohkmmbmfhficaa.Pl
