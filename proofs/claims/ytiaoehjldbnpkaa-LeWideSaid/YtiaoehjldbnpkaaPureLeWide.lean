/- For any number and size the law's answer is true: a number in fewer bytes is what it is in eight, without noughts behind, and fits just if these are noughts. -/
import Derived.Test.YtiaoehjldbnpkaaPBx36
import Derived.Test.YtiaoehjldbnpkaaPackP
import Derived.Test.YtiaoehjldbnpkaaStr
namespace Go.Proofs.Ytiaoehjldbnpkaa.Pure
open Go.RowKit Go.Proofs.Ytiaoehjldbnpkaa.PB Go.Proofs.YtiaoehjldbnpkaaW.PrintWords Go.Proofs.YtiaoehjldbnpkaaW.PrintLast
set_option linter.unusedVariables false

theorem wide_step (n s i : Nat) (hi : s ≤ i) : (n % 256 ^ (i + 1) < 256 ^ s) ↔ (n % 256 ^ i < 256 ^ s ∧ n / 256 ^ i % 256 = 0) := by
  have hsi : 256 ^ s ≤ 256 ^ i := Nat.pow_le_pow_right (by decide) hi
  have e : n % 256 ^ (i + 1) = n % 256 ^ i + 256 ^ i * (n / 256 ^ i % 256) := by rw [Nat.pow_succ, Nat.mod_mul]
  rw [e]
  by_cases z : n / 256 ^ i % 256 = 0
  · rw [z, Nat.mul_zero, Nat.add_zero]
    exact ⟨fun h => ⟨h, rfl⟩, fun h => h.1⟩
  · have h1 : 256 ^ i * 1 ≤ 256 ^ i * (n / 256 ^ i % 256) := Nat.mul_le_mul_left _ (by omega)
    constructor
    · intro h; omega
    · intro h; exact absurd h.2 z
theorem wide_loop (n s : Nat) (hs : s ≤ 8) (hn : n < 18446744073709551616) (hf : Pl.fits (n : Int) (s : Int) = decide (n < 256 ^ s)) : ∀ (d k i : Nat), i + d = 8 → d < k → s ≤ i →
    waggonerlaw01_LeWide.l0 k (s : Int) true (Pl.leB 8 n) (Pl.putS [] (n : Int) (s : Int)).1 (Pl.putS [] (n : Int) (s : Int)).2 (decide (n % 256 ^ i < 256 ^ s)) (i : Int) = some true
  | 0, k, i, hi, hk, hsi => by
    obtain ⟨k, rfl⟩ : ∃ m, k = m + 1 := ⟨k - 1, by omega⟩
    obtain rfl : i = 8 := by omega
    simp only [waggonerlaw01_LeWide.l0]
    rw [if_neg (by decide), if_pos trivial, Nat.mod_eq_of_lt (show n < 256 ^ 8 from by omega), ← hf]
    unfold Pl.putS
    by_cases h : Pl.fits (n : Int) (s : Int) = true
    · rw [if_pos h, h, if_pos (by rfl), if_pos rfl, if_pos (by omega), if_pos (by rw [Pl.leB_length]; omega), Int.toNat_natCast, Int.toNat_natCast, Pl.leB_take 8 s n hs, List.nil_append]
      simp
    · rw [if_neg h, if_pos (by rw [Bool.not_eq_true] at h; rw [h]; decide), if_neg h]
  | d + 1, k, i, hi, hk, hsi => by
    obtain ⟨k, rfl⟩ : ∃ m, k = m + 1 := ⟨k - 1, by omega⟩
    have ih := wide_loop n s hs hn hf d k (i + 1) (by omega) (by omega) (by omega)
    have e := wide_step n s i hsi
    simp only [waggonerlaw01_LeWide.l0]
    rw [if_pos (by omega), show wrap64 ((i : Int) + 1) = ((i + 1 : Nat) : Int) from by unfold wrap64; omega]
    by_cases h : n % 256 ^ i < 256 ^ s
    · rw [if_pos (decide_eq_true h), if_pos (by omega), if_pos (by rw [Pl.leB_length]; omega), show (rd (Pl.leB 8 n) (i : Int) == 0) = decide (n % 256 ^ (i + 1) < 256 ^ s) from by
        unfold rd
        rw [Int.toNat_natCast, Pl.leB_get 8 n i (by omega), Bool.eq_iff_iff, beq_iff_eq, decide_eq_true_eq, e]
        omega]
      exact ih
    · rw [if_neg (by simpa using h), show false = decide (n % 256 ^ (i + 1) < 256 ^ s) from (decide_eq_false (by rw [e]; exact fun q => h q.1)).symm]
      exact ih
theorem LeWide : waggonerlaw01_LeWide.Pure := by
  intro a0 a1 w0 w1
  obtain ⟨h0, h1⟩ := Pl.wf_u64 w0
  obtain ⟨n, rfl⟩ := Int.eq_ofNat_of_zero_le h0
  refine ⟨12, ?_⟩
  unfold waggonerlaw01_LeWide.f waggonerlaw01_awake.f
  rw [Option.bind_some, show le_Put.f [] (n : Int) 8 = some (Pl.leB 8 n, 0) from by unfold le_Put.f; rw [if_pos ⟨h0, h1, by decide⟩, Pl.putS, if_pos (Pl.fits_8 h1)]; rfl, Option.bind_some,
    show le_Put.f [] (n : Int) a1 = some (Pl.putS [] (n : Int) a1) from by unfold le_Put.f; rw [if_pos ⟨h0, h1, by decide⟩], Option.bind_some, if_pos rfl,
    show (((Pl.leB 8 n).length : Int) != 8) = false from by rw [Pl.leB_length]; decide]
  have go : ∀ s : Nat, s ≤ 8 → Pl.fits (n : Int) (s : Int) = decide (n < 256 ^ s) → waggonerlaw01_LeWide.j1 11 (s : Int) true (Pl.leB 8 n) (Pl.putS [] (n : Int) (s : Int)).1 (Pl.putS [] (n : Int) (s : Int)).2 false = some true := by
    intro s hs hf
    simp only [waggonerlaw01_LeWide.j1]
    rw [if_neg (by decide)]
    have := wide_loop n s hs (by omega) hf (8 - s) 10 s (by omega) (by omega) (Nat.le_refl _)
    rw [decide_eq_true (Nat.mod_lt _ (Nat.pow_pos (by decide)))] at this
    exact this
  simp only [waggonerlaw01_LeWide.j0]
  rw [if_neg (by decide)]
  by_cases s1 : a1 = 1
  · subst s1; rw [if_pos rfl]; exact go 1 (by decide) (by rw [show ((1 : Nat) : Int) = 1 from rfl, Pl.fits_1]; simp; omega)
  by_cases s2 : a1 = 2
  · subst s2; rw [if_neg s1, if_pos rfl]; exact go 2 (by decide) (by rw [show ((2 : Nat) : Int) = 2 from rfl, Pl.fits_2]; simp; omega)
  by_cases s4 : a1 = 4
  · subst s4; rw [if_neg s1, if_neg s2, if_pos rfl]; exact go 4 (by decide) (by rw [show ((4 : Nat) : Int) = 4 from rfl, Pl.fits_4]; simp; omega)
  rw [if_neg s1, if_neg s2, if_neg s4]
  by_cases s8 : a1 = 8
  · subst s8; exact go 8 (by decide) (by rw [show ((8 : Nat) : Int) = 8 from rfl, Pl.fits_8 h1]; simp; omega)
  · rw [show (a1 != 8) = true from by simpa using s8]
    have hf : Pl.fits (n : Int) a1 = false := Pl.fits_no (by rw [← Bool.not_eq_true, Pl.okS_iff]; omega)
    simp only [waggonerlaw01_LeWide.j1]
    rw [if_pos trivial, if_pos trivial, show Pl.putS [] (n : Int) a1 = ([], 10) from by rw [Pl.putS, hf]; rfl]
    rfl
end Go.Proofs.Ytiaoehjldbnpkaa.Pure
