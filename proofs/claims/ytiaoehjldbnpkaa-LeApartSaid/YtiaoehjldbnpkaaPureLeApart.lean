/- For any two numbers the law's answer is true: from the highest unlike byte on, the greater number has the greater one. -/
import Derived.Test.YtiaoehjldbnpkaaPBx33
import Derived.Test.YtiaoehjldbnpkaaPackP
import Derived.Test.YtiaoehjldbnpkaaStr
namespace Go.Proofs.Ytiaoehjldbnpkaa.Pure
open Go.RowKit Go.Proofs.Ytiaoehjldbnpkaa.PB Go.Proofs.YtiaoehjldbnpkaaW.PrintWords Go.Proofs.YtiaoehjldbnpkaaW.PrintLast
set_option linter.unusedVariables false

theorem apart_rd : ∀ (k n i : Nat), i < k → (Pl.leB k n).getD i 0 = ((n / 256 ^ i % 256 : Nat) : Int)
  | 0, _, _, h => absurd h (Nat.not_lt_zero _)
  | k + 1, n, 0, _ => by rw [Pl.leB, Nat.pow_zero, Nat.div_one]; rfl
  | k + 1, n, i + 1, h => by
    rw [Pl.leB, List.getD_cons_succ, apart_rd k (n / 256) i (by omega), Nat.div_div_eq_div_mul, Nat.pow_succ, Nat.mul_comm 256]
theorem apart_pack (a : Nat) (ha : a < 18446744073709551616) : le_Pack.f (⟨#[113]⟩ : ByteArray) [(a : Int)] = some (Pl.leB 8 a, 0) := by
  unfold le_Pack.f
  rw [if_pos ⟨Pl.u64B_iff.2 (by intro x hx; rw [List.mem_singleton] at hx; omega), by decide⟩]
  have e : Pl.fb (⟨#[113]⟩ : ByteArray) = [113] := by kernel_rfl
  have hf : Pl.fits (a : Int) (Pl.letS 113) = true := by rw [show Pl.letS 113 = 8 from by decide]; exact Pl.fits_8 (by omega)
  have hp : Pl.packP [113] [(a : Int)] = some (Pl.leB 8 a) := by
    rw [Pl.packP, if_pos hf, Pl.packP, show Pl.letS 113 = 8 from by decide]
    simp
  rw [e, Pl.packS_some hp]
theorem apart_loop (a b : Nat) : ∀ (i k : Nat), i ≤ 8 → i < k → a / 256 ^ i = b / 256 ^ i → waggonerlaw01_LeApart.l0 k (a : Int) (b : Int) true (Pl.leB 8 a) (Pl.leB 8 b) ((i : Int) - 1) = some true
  | 0, k, _, hk, h => by
    obtain ⟨k, rfl⟩ : ∃ m, k = m + 1 := ⟨k - 1, by omega⟩
    rw [Nat.pow_zero, Nat.div_one, Nat.div_one] at h
    simp only [waggonerlaw01_LeApart.l0]
    rw [if_neg (by omega), if_pos trivial, h]
    simp
  | i + 1, k, hi, hk, h => by
    obtain ⟨k, rfl⟩ : ∃ m, k = m + 1 := ⟨k - 1, by omega⟩
    have ih := apart_loop a b i k (by omega) (by omega)
    simp only [waggonerlaw01_LeApart.l0]
    have hrd : ∀ n : Nat, rd (Pl.leB 8 n) (((i + 1 : Nat) : Int) - 1) = ((n / 256 ^ i % 256 : Nat) : Int) := fun n => by
      unfold rd
      rw [show (((i + 1 : Nat) : Int) - 1).toNat = i from by omega]
      exact apart_rd 8 n i (by omega)
    have hdiv : ∀ n : Nat, n / 256 ^ (i + 1) = n / 256 ^ i / 256 := fun n => by rw [Nat.div_div_eq_div_mul, Nat.pow_succ]
    rw [hdiv, hdiv] at h
    rw [if_pos (by omega), if_pos (by omega), if_pos (by rw [Pl.leB_length]; omega), if_pos (by rw [Pl.leB_length]; omega), hrd, hrd]
    by_cases e : a / 256 ^ i % 256 = b / 256 ^ i % 256
    · rw [if_pos (by rw [e]), show wrap64 (((i + 1 : Nat) : Int) - 1 - 1) = (i : Int) - 1 from by unfold wrap64; omega]
      exact ih (by omega)
    · rw [if_neg (by omega), if_pos trivial]
      have key : (a / 256 ^ i % 256 > b / 256 ^ i % 256) ↔ a > b := by
        constructor
        · intro hg
          have : b / 256 ^ i < a / 256 ^ i := by omega
          exact Nat.lt_of_not_le fun hle => by have := Nat.div_le_div_right (c := 256 ^ i) hle; omega
        · intro hg
          have : b / 256 ^ i ≤ a / 256 ^ i := Nat.div_le_div_right (by omega)
          omega
      simp only [Option.some.injEq, beq_iff_eq, decide_eq_decide]
      constructor
      · intro hg; have := key.1 (by omega); omega
      · intro hg; have := key.2 (by omega); omega
theorem LeApart : waggonerlaw01_LeApart.Pure := by
  intro a0 a1 w0 w1
  obtain ⟨h0, h1⟩ := Pl.wf_u64 w0
  obtain ⟨h2, h3⟩ := Pl.wf_u64 w1
  obtain ⟨a, rfl⟩ := Int.eq_ofNat_of_zero_le h0
  obtain ⟨b, rfl⟩ := Int.eq_ofNat_of_zero_le h2
  refine ⟨11, ?_⟩
  unfold waggonerlaw01_LeApart.f waggonerlaw01_awake.f
  rw [Option.bind_some, apart_pack a (by omega), Option.bind_some, apart_pack b (by omega), Option.bind_some, if_pos rfl, if_pos rfl, if_pos (by rw [Pl.leB_length]; rfl)]
  simp only [waggonerlaw01_LeApart.j0]
  rw [if_neg (by rw [Pl.leB_length]; decide)]
  exact apart_loop a b 8 10 (Nat.le_refl _) (by omega) (by rw [Nat.div_eq_of_lt (by omega), Nat.div_eq_of_lt (by omega)])
end Go.Proofs.Ytiaoehjldbnpkaa.Pure
