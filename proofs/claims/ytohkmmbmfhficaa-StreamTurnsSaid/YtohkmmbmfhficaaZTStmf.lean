/- Words and walks that this claim names, of those that the kit's print and programs of this workplace have printed. -/
import Derived.Test.YtohkmmbmfhficaaZTStmm
set_option linter.unusedVariables false
namespace Go.Proofs.Ytohkmmbmfhficaa.Pl
def cutsF (x : Ext) (most : Int) : Nat → Int → List Frm
  | 0, _ => []
  | k + 1, i => if i < x.2.1 then (4 - x.2.2.1, x.1 + i, min most (x.2.1 - i), part x.2.2.1 x.2.2.2.2 i (i + min most (x.2.1 - i)), 0, 0, 0) :: cutsF x most k (i + most) else []
theorem cutsF_end {x : Ext} {most i : Int} (h : ¬ i < x.2.1) : ∀ k, cutsF x most k i = []
  | 0 => rfl
  | k + 1 => by rw [cutsF, if_neg h]
def mostF (x : Ext) : Int := if x.2.2.1 = 2 then 16 else x.2.1
theorem cutsF_chunks {a n g : Int} {d : List Int} (hd : (d.length : Int) = 32 * n) : ∀ (k : Nat) (i : Int), 0 ≤ i → i < n → (n - i).toNat < k → cutsF (a, n, 2, g, d) 16 k i = chunks (a + i) (n - i) (d.drop (i * 32).toNat)
  | 0, i, _, _, h => absurd h (Nat.not_lt_zero _)
  | k + 1, i, h0, h1, h => by
    rw [cutsF, if_pos h1]
    dsimp only
    rw [part_data rfl]
    by_cases h16 : 16 < n - i
    ·rw [chunks_far h16, show min 16 (n - i) = 16 by omega, cutsF_chunks hd k (i + 16) (by omega) (by omega) (by omega), List.drop_take, List.drop_drop]
     rw [show ((i + 16) * 32).toNat - (i * 32).toNat = 512 by omega, show (i * 32).toNat + 512 = ((i + 16) * 32).toNat by omega, show a + (i + 16) = a + i + 16 by omega, show n - (i + 16) = n - i - 16 by omega]
     rfl
    rw [chunks_last h16, show min 16 (n - i) = n - i by omega, cutsF_end (by dsimp only; omega), List.take_of_length_le (by omega)]
    rfl
theorem cutsF_all {x : Ext} (h : eOk x = true) : cutsF x (mostF x) 65 0 = exF x := by
  obtain ⟨a, n, k, g, d⟩ := x
  have h' : extOk a n k g d = true := h
  obtain ⟨h1, h2, h3, h4, h5, h6, h7, h8, h9⟩ := extOk_iff.1 h'
  unfold mostF exF
  dsimp only
  by_cases hk : k = 2
  ·subst hk
   rw [if_pos rfl, if_pos rfl]
   rw [if_pos rfl] at h9
   rw [cutsF_chunks (by omega) 65 0 (by omega) (by omega) (by omega), show ((0 : Int) * 32).toNat = 0 by omega, List.drop_zero, show a + 0 = a by omega, show n - 0 = n by omega]
  rw [if_neg hk, if_neg hk, cutsF, if_pos (by dsimp only; omega), cutsF_end (by dsimp only; omega)]
  dsimp only
  rw [show n - 0 = n by omega, show min n n = n by omega, show (0 : Int) + n = n by omega, part_all h', show a + 0 = a by omega]
theorem mostF_pos {x : Ext} (h : eOk x = true) : 1 ≤ mostF x ∧ mostF x ≤ 64 := by
  have := extOk_iff.1 (show extOk x.1 x.2.1 x.2.2.1 x.2.2.2.1 x.2.2.2.2 = true from h)
  unfold mostF
  split <;> omega
theorem cut_here {x : Ext} (h : eOk x = true) {i : Int} (h0 : 0 ≤ i) (h1 : i < x.2.1) : cutS x.1 x.2.1 x.2.2.1 x.2.2.2.1 x.2.2.2.2 (x.1 + i) (min (mostF x) (x.2.1 - i)) = (x.1 + i, min (mostF x) (x.2.1 - i), x.2.2.1, x.2.2.2.1, part x.2.2.1 x.2.2.2.2 i (i + min (mostF x) (x.2.1 - i)), true) := by
  have q := extOk_iff.1 (show extOk x.1 x.2.1 x.2.2.1 x.2.2.2.1 x.2.2.2.2 = true from h)
  have m := mostF_pos h
  have := cut_at (i := i) (j := i + min (mostF x) (x.2.1 - i)) h (b := x.1 + i) (m := min (mostF x) (x.2.1 - i)) (by omega) (by omega) (by omega) (by omega) (by omega) (by omega) (by omega)
  rw [this, show i + min (mostF x) (x.2.1 - i) - i = min (mostF x) (x.2.1 - i) by omega]
end Go.Proofs.Ytohkmmbmfhficaa.Pl
