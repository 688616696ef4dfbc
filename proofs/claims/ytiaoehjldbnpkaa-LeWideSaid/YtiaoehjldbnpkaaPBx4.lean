/- Functions of the program as Lean functions, and that the Go code comes to just their answers: no condition but that the function says so. (Written by a program of this workplace over the kit's print, with contracts by hand.) -/
import Derived.Test.YtiaoehjldbnpkaaPBx0
import Derived.Test.YtiaoehjldbnpkaaPBx1
import Derived.Test.YtiaoehjldbnpkaaPBx2
import Derived.Test.YtiaoehjldbnpkaaPBx3
namespace Go.Proofs.Ytiaoehjldbnpkaa.PB
open Go.RowKit Go.Proofs.YtiaoehjldbnpkaaW.PrintWords Go.Proofs.YtiaoehjldbnpkaaW.PrintLast Go.Proofs.YtiaoehjldbnpkaaW.PrintMore
attribute [local go_sem] max2_int min2_int max_two min_two max_three min_three max_four min_four   -- for this text's walks alone
set_option linter.unusedVariables false
set_option linter.unusedSimpArgs false

/-! ### le_Put: function 27 -/
def le_Put.f (l0 : List Int) (a1 : Int) (a2 : Int) : Option (List Int × Int) := if 0 ≤ a1 ∧ a1 < 18446744073709551616 ∧ l0.length < 70368744177664 then some (Pl.putS l0 a1 a2) else none
theorem le_Put.loop : ∀ (d : Nat) (k : Nat) (n : Nat) (l : List Int) (s i : Int), d < k → 0 ≤ i → i + d = s → s ≤ 8 → l.length + d < 140737488355328 → le_Put_p.l0 k (n : Int) l s i = some (l ++ Pl.leB d n, 0)
  | 0, k, n, l, s, i, hk, h0, hd, hs, hl => by
    obtain ⟨k, rfl⟩ : ∃ m, k = m + 1 := ⟨k - 1, by omega⟩
    simp only [le_Put_p.l0]
    rw [if_neg (by omega), Pl.leB, List.append_nil]
  | d + 1, k, n, l, s, i, hk, h0, hd, hs, hl => by
    obtain ⟨k, rfl⟩ : ∃ m, k = m + 1 := ⟨k - 1, by omega⟩
    simp only [le_Put_p.l0]
    rw [if_pos (by omega), if_pos (by omega), show wrap64 (i + 1) = i + 1 from by unfold wrap64; omega, show (n : Int) / 256 = ((n / 256 : Nat) : Int) from by omega,
      le_Put.loop d k (n / 256) _ s (i + 1) (by omega) (by omega) (by omega) hs (by rw [List.length_append, List.length_singleton]; omega)]
    rw [Pl.leB, List.append_assoc, List.singleton_append, show (n : Int) % 256 = ((n % 256 : Nat) : Int) from by omega]
theorem le_may.tells (n : Nat) (hn : n < 18446744073709551616) (s : Int) : le_may.f n s = some (Pl.fits n s) := by
  unfold le_may.f
  by_cases h1 : s = 1
  · subst h1
    have e : (wrap64 (8 * 1)) = 8 := by unfold wrap64; omega
    rw [if_pos rfl, e, if_pos (by decide), Pl.fits_1]
    simp only [shr, IntKind.bits, Option.some.injEq]
    rw [Bool.eq_iff_iff]
    simp
    omega
  by_cases h2 : s = 2
  · subst h2
    have e : (wrap64 (8 * 2)) = 16 := by unfold wrap64; omega
    rw [if_neg (by decide), if_pos rfl, e, if_pos (by decide), Pl.fits_2]
    simp only [shr, IntKind.bits, Option.some.injEq]
    rw [Bool.eq_iff_iff]
    simp
    omega
  by_cases h4 : s = 4
  · subst h4
    have e : (wrap64 (8 * 4)) = 32 := by unfold wrap64; omega
    rw [if_neg (by decide), if_neg (by decide), if_pos rfl, e, if_pos (by decide), Pl.fits_4]
    simp only [shr, IntKind.bits, Option.some.injEq]
    rw [Bool.eq_iff_iff]
    simp
    omega
  rw [if_neg h1, if_neg h2, if_neg h4]
  by_cases h8 : s = 8
  · subst h8
    rw [Pl.fits_8 (by omega)]
    rfl
  · rw [Pl.fits_no (by rw [← Bool.not_eq_true, Pl.okS_iff]; omega)]
    simpa using h8
theorem le_Put.tells {l0 : List Int} {a1 a2 : Int} {r : List Int × Int} (h : le_Put.f l0 a1 a2 = some r) : le_Put_p.f 10 l0 a1 a2 = some r := by
  unfold le_Put.f at h
  split at h
  case isFalse => cases h
  rename_i hh
  obtain ⟨h0, h1, h2⟩ := hh
  obtain rfl := Option.some.inj h
  obtain ⟨n, rfl⟩ := Int.eq_ofNat_of_zero_le h0
  unfold le_Put_p.f
  rw [le_may.tells n (by omega) a2, Option.bind_some]
  unfold Pl.putS
  by_cases hf : Pl.fits n a2 = true
  · have hs : a2 = 1 ∨ a2 = 2 ∨ a2 = 4 ∨ a2 = 8 := by
      unfold Pl.fits at hf
      rw [Bool.and_eq_true, Pl.okS_iff] at hf
      exact hf.1
    rw [if_pos hf, if_pos hf]
    unfold bytes_Clone.f
    rw [if_pos (by omega), Option.bind_some, Int.toNat_natCast]
    exact le_Put.loop a2.toNat 10 n l0 a2 0 (by omega) (by omega) (by omega) (by omega) (by omega)
  · rw [if_neg hf, if_neg hf]
theorem le_Put.calls (A0 : Option Addr) (c0 : Nat) (l0 : List Int) (a1 : Int) (a2 : Int) (r1 : List Int) (r2 : Int) (w : World) (hr0 : Kd.C (Kd.int .u8) w A0 l0.length l0) (hc0 : l0.length ≤ c0) (h : le_Put.f l0 a1 a2 = some (r1, r2)) :
    Calls Try.prog 27 #[.slice A0 l0.length c0, .int .u64 a1, .int .i64 a2] w fun e w' => ∃ v0_ : Value, e = .returned (.tuple #[v0_, .int .i64 r2]) ∧ Kd.R (Kd.int .u8) 5 w' w.heap.size (fun _ => True) v0_ r1 ∧ Below w.heap.size w w' :=
  le_Put_p.calls 10 A0 c0 l0 a1 a2 r1 r2 w hr0 hc0 (le_Put.tells h)

end Go.Proofs.Ytiaoehjldbnpkaa.PB
