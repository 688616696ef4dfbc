/- Words and walks that this claim names, of those that the kit's print and programs of this workplace have printed. -/
import Derived.Test.YtohkmmbmfhficaaZTRec
namespace Go.Proofs.Ytohkmmbmfhficaa.Pl
def extOk (a n k g : Int) (l : List Int) : Bool := decide (0 ≤ a ∧ a ≤ 64 ∧ 1 ≤ n ∧ n ≤ 64 - a ∧ 0 ≤ k ∧ k ≤ 2 ∧ 0 ≤ g ∧ g ≤ 2147483647 ∧ (l.length : Int) = if k = 2 then n * 32 else 0)
theorem extOk_iff {a n k g : Int} {l : List Int} : extOk a n k g l = true ↔ 0 ≤ a ∧ a ≤ 64 ∧ 1 ≤ n ∧ n ≤ 64 - a ∧ 0 ≤ k ∧ k ≤ 2 ∧ 0 ≤ g ∧ g ≤ 2147483647 ∧ (l.length : Int) = if k = 2 then n * 32 else 0 := by
  simp only [extOk, decide_eq_true_eq]
end Go.Proofs.Ytohkmmbmfhficaa.Pl
