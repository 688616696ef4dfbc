/- Functions of the program as Lean functions, and that the Go code comes to just their answers: no condition but that the function says so. (Written by a program of this workplace over the kit's print, with contracts by hand.) -/
import Derived.Test.YtiaoehjldbnpkaaPBx0
import Derived.Test.YtiaoehjldbnpkaaPBx20
import Derived.Test.YtiaoehjldbnpkaaPBx21
namespace Go.Proofs.Ytiaoehjldbnpkaa.PB
open Go.RowKit Go.Proofs.YtiaoehjldbnpkaaW.PrintWords Go.Proofs.YtiaoehjldbnpkaaW.PrintLast Go.Proofs.YtiaoehjldbnpkaaW.PrintMore
attribute [local go_sem] max2_int min2_int max_two min_two max_three min_three max_four min_four   -- for this text's walks alone
set_option linter.unusedVariables false
set_option linter.unusedSimpArgs false

/-! ### waggonerref01_Put: function 28 -/
def waggonerref01_Put.f (l0 : List Int) (a1 : Int) (a2 : Int) : Option (List Int × Int) := if 0 ≤ a1 ∧ a1 < 18446744073709551616 ∧ l0.length < 70368744177664 then some (Pl.putS l0 a1 a2) else none
theorem waggonerref01_may.tells (s : Int) : waggonerref01_may.f s = some (Pl.okS s) := by
  unfold waggonerref01_may.f Pl.okS
  by_cases h1 : s = 1
  · subst h1; rfl
  by_cases h2 : s = 2
  · subst h2; rfl
  by_cases h4 : s = 4
  · subst h4; rfl
  by_cases h8 : s = 8
  · subst h8; rfl
  simp [h1, h2, h4, h8]
theorem u64_8 {x : Int} (h0 : 0 ≤ x) (h1 : x ≤ 8) : IntKind.u64.wrap (wrap64 (8 * x)) = 8 * x := by
  have e : wrap64 (8 * x) = 8 * x := by unfold wrap64; omega
  rw [e, IntKind.wrap_u64]
  omega
theorem shr_8 (n i : Nat) (hi : i ≤ 8) : shr .u64 (n : Int) (8 * (i : Int)) = ((n / 2 ^ (8 * i) : Nat) : Int) := by
  unfold shr
  rw [show (8 * (i : Int)).toNat = 8 * i from by omega, Nat.min_eq_left (show 8 * i ≤ IntKind.u64.bits from by show 8 * i ≤ 64; omega)]
  push_cast
  rfl
theorem waggonerref01_Put.loop : ∀ (d : Nat) (k : Nat) (n : Nat) (l : List Int) (s i : Nat), d < k → i + d = s → s ≤ 8 → l.length + d < 140737488355328 → waggonerref01_Put_p.l0 k (n : Int) (s : Int) l (i : Int) = some (l ++ Pl.leB d (n / 2 ^ (8 * i)), 0)
  | 0, k, n, l, s, i, hk, hd, hs, hl => by
    obtain ⟨k, rfl⟩ : ∃ m, k = m + 1 := ⟨k - 1, by omega⟩
    simp only [waggonerref01_Put_p.l0]
    rw [if_neg (by omega), Pl.leB, List.append_nil]
  | d + 1, k, n, l, s, i, hk, hd, hs, hl => by
    obtain ⟨k, rfl⟩ : ∃ m, k = m + 1 := ⟨k - 1, by omega⟩
    simp only [waggonerref01_Put_p.l0]
    rw [if_pos (by omega), u64_8 (by omega) (by omega), if_pos (by omega), if_pos (by omega), shr_8 n i (by omega), show wrap64 ((i : Int) + 1) = ((i + 1 : Nat) : Int) from by unfold wrap64; omega,
      waggonerref01_Put.loop d k n _ s (i + 1) (by omega) (by omega) hs (by rw [List.length_append, List.length_singleton]; omega)]
    rw [Pl.leB, List.append_assoc, List.singleton_append, show n / 2 ^ (8 * (i + 1)) = n / 2 ^ (8 * i) / 256 from by rw [Nat.div_div_eq_div_mul, show 8 * (i + 1) = 8 * i + 8 from by omega, Nat.pow_add]]
    rfl
theorem waggonerref01_Put.tells {l0 : List Int} {a1 a2 : Int} {r : List Int × Int} (h : waggonerref01_Put.f l0 a1 a2 = some r) : waggonerref01_Put_p.f 11 l0 a1 a2 = some r := by
  unfold waggonerref01_Put.f at h
  split at h
  case isFalse => cases h
  rename_i hh
  obtain ⟨h0, h1, h2⟩ := hh
  obtain rfl := Option.some.inj h
  obtain ⟨n, rfl⟩ := Int.eq_ofNat_of_zero_le h0
  have hgo : ∀ s : Nat, s ≤ 8 → waggonerref01_Put_p.j0 11 l0 (n : Int) (s : Int) false = some (l0 ++ Pl.leB s n, 0) := by
    intro s hs
    simp only [waggonerref01_Put_p.j0]
    rw [if_neg (by decide), Option.bind_some, if_pos (by rw [List.length_nil]; omega), List.nil_append]
    have := waggonerref01_Put.loop s 10 n l0 s 0 (by omega) (by omega) hs (by omega)
    rw [Nat.mul_zero, Nat.pow_zero, Nat.div_one] at this
    exact this
  unfold waggonerref01_Put_p.f
  rw [waggonerref01_may.tells, Option.bind_some]
  unfold Pl.putS
  by_cases hs : Pl.okS a2 = true
  · rw [if_pos hs]
    rcases Pl.okS_iff.1 hs with rfl | rfl | rfl | rfl
    · rw [if_pos (by decide), u64_8 (by decide) (by decide), if_pos (by decide), Pl.fits_1, show (8 * (1 : Int)) = 8 * ((1 : Nat) : Int) from rfl, shr_8 n 1 (by decide)]
      by_cases hf : (n : Int) < 256
      · rw [if_pos (decide_eq_true hf), show ((((n / 2 ^ (8 * 1) : Nat) : Int) != 0)) = false from by simp; omega]
        exact hgo 1 (by decide)
      · rw [if_neg (by simpa using hf), show ((((n / 2 ^ (8 * 1) : Nat) : Int) != 0)) = true from by simp; omega]
        rfl
    · rw [if_pos (by decide), u64_8 (by decide) (by decide), if_pos (by decide), Pl.fits_2, show (8 * (2 : Int)) = 8 * ((2 : Nat) : Int) from rfl, shr_8 n 2 (by decide)]
      by_cases hf : (n : Int) < 65536
      · rw [if_pos (decide_eq_true hf), show ((((n / 2 ^ (8 * 2) : Nat) : Int) != 0)) = false from by simp; omega]
        exact hgo 2 (by decide)
      · rw [if_neg (by simpa using hf), show ((((n / 2 ^ (8 * 2) : Nat) : Int) != 0)) = true from by simp; omega]
        rfl
    · rw [if_pos (by decide), u64_8 (by decide) (by decide), if_pos (by decide), Pl.fits_4, show (8 * (4 : Int)) = 8 * ((4 : Nat) : Int) from rfl, shr_8 n 4 (by decide)]
      by_cases hf : (n : Int) < 4294967296
      · rw [if_pos (decide_eq_true hf), show ((((n / 2 ^ (8 * 4) : Nat) : Int) != 0)) = false from by simp; omega]
        exact hgo 4 (by decide)
      · rw [if_neg (by simpa using hf), show ((((n / 2 ^ (8 * 4) : Nat) : Int) != 0)) = true from by simp; omega]
        rfl
    · rw [if_neg (by decide), if_pos (Pl.fits_8 (by omega))]
      exact hgo 8 (by decide)
  · rw [if_neg hs, if_neg (by rw [Pl.fits_no (by simpa using hs)]; decide)]
    rfl
theorem waggonerref01_Put.calls (A0 : Option Addr) (c0 : Nat) (l0 : List Int) (a1 : Int) (a2 : Int) (r1 : List Int) (r2 : Int) (w : World) (hr0 : Kd.C (Kd.int .u8) w A0 l0.length l0) (hc0 : l0.length ≤ c0) (h : waggonerref01_Put.f l0 a1 a2 = some (r1, r2)) :
    Calls Try.prog 28 #[.slice A0 l0.length c0, .int .u64 a1, .int .i64 a2] w fun e w' => ∃ v0_ : Value, e = .returned (.tuple #[v0_, .int .i64 r2]) ∧ Kd.R (Kd.int .u8) 5 w' w.heap.size (fun _ => True) v0_ r1 ∧ Below w.heap.size w w' :=
  waggonerref01_Put_p.calls 11 A0 c0 l0 a1 a2 r1 r2 w hr0 hc0 (waggonerref01_Put.tells h)

end Go.Proofs.Ytiaoehjldbnpkaa.PB
