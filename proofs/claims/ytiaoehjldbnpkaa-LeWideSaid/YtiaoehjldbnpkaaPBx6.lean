/- Functions of the program as Lean functions, and that the Go code comes to just their answers: no condition but that the function says so. (Written by a program of this workplace over the kit's print, with contracts by hand.) -/
import Derived.Test.YtiaoehjldbnpkaaPBx0
import Derived.Test.YtiaoehjldbnpkaaPBx1
import Derived.Test.YtiaoehjldbnpkaaPBx2
import Derived.Test.YtiaoehjldbnpkaaPBx5
namespace Go.Proofs.Ytiaoehjldbnpkaa.PB
open Go.RowKit Go.Proofs.YtiaoehjldbnpkaaW.PrintWords Go.Proofs.YtiaoehjldbnpkaaW.PrintLast Go.Proofs.YtiaoehjldbnpkaaW.PrintMore
attribute [local go_sem] max2_int min2_int max_two min_two max_three min_three max_four min_four   -- for this text's walks alone
set_option linter.unusedVariables false
set_option linter.unusedSimpArgs false

/-! ### le_Take: function 29 -/
def le_Take.f (l0 : List Int) (a1 : Int) : Option (Int × List Int × Int) := if Pl.byteB l0 = true ∧ l0.length < 70368744177664 then some (Pl.takeS l0 a1) else none
theorem le_Take.may (s : Int) : le_may.f 0 s = some (Pl.okS s) := by
  unfold le_may.f
  by_cases h1 : s = 1
  · subst h1
    rw [if_pos rfl, show (wrap64 (8 * 1)) = 8 from by unfold wrap64; omega, if_pos (by decide)]
    rfl
  by_cases h2 : s = 2
  · subst h2
    rw [if_neg (by decide), if_pos rfl, show (wrap64 (8 * 2)) = 16 from by unfold wrap64; omega, if_pos (by decide)]
    rfl
  by_cases h4 : s = 4
  · subst h4
    rw [if_neg (by decide), if_neg (by decide), if_pos rfl, show (wrap64 (8 * 4)) = 32 from by unfold wrap64; omega, if_pos (by decide)]
    rfl
  rw [if_neg h1, if_neg h2, if_neg h4]
  unfold Pl.okS
  simp [h1, h2, h4]
theorem le_Take.step (v b i : Nat) (hv : v < 2 ^ (8 * i)) (hb : b < 256) (hi : i < 8) : bits .or .u64 (v : Int) (shl .u64 (IntKind.u64.wrap (b : Int)) (wrap64 (8 * (i : Int)))) = ((2 ^ (8 * i) * b + v : Nat) : Int) := by
  have e1 : IntKind.u64.wrap (b : Int) = (b : Int) := by rw [IntKind.wrap_u64]; omega
  have e2 : wrap64 (8 * (i : Int)) = ((8 * i : Nat) : Int) := by unfold wrap64; omega
  have hp : 2 ^ (8 * i) * b < 18446744073709551616 := by
    have h1 : 2 ^ (8 * i) * 256 ≤ 2 ^ 64 := by
      rw [show (256 : Nat) = 2 ^ 8 from rfl, ← Nat.pow_add]
      exact Nat.pow_le_pow_right (by decide) (by omega)
    have h2 : 2 ^ (8 * i) * b < 2 ^ (8 * i) * 256 := Nat.mul_lt_mul_of_pos_left hb (Nat.two_pow_pos _)
    omega
  have h64 : 2 ^ (8 * i) ≤ 2 ^ 64 := Nat.pow_le_pow_right (by decide) (by omega)
  have hv64 : v < 18446744073709551616 := Nat.lt_of_lt_of_le hv h64
  unfold shl
  rw [e1, e2, Int.toNat_natCast, Nat.min_eq_left (show 8 * i ≤ IntKind.u64.bits from by show 8 * i ≤ 64; omega),
    show (b : Int) * 2 ^ (8 * i) = ((2 ^ (8 * i) * b : Nat) : Int) from by push_cast; rw [Int.mul_comm], IntKind.wrap_u64]
  obtain ⟨p, hpe⟩ : ∃ p, p = 2 ^ (8 * i) * b := ⟨_, rfl⟩
  rw [← hpe] at hp ⊢
  rw [show ((p : Nat) : Int) % 18446744073709551616 = (p : Int) from by omega, u64_or_nat v p hv64 hp, hpe, Nat.or_comm, Nat.two_pow_add_eq_or_of_lt hv b]
theorem le_Take.grow (l : List Int) (hb : Pl.byteB l = true) (i : Nat) (hi : i < l.length) : ∃ b : Nat, b < 256 ∧ rd l (i : Int) = (b : Int) ∧ Pl.leN (Pl.nats (l.take i)) < 2 ^ (8 * i) ∧ Pl.leN (Pl.nats (l.take (i + 1))) = 2 ^ (8 * i) * b + Pl.leN (Pl.nats (l.take i)) := by
  obtain ⟨b, hb8, hg, ht⟩ := Pl.byteB_at hb i hi
  have hn : ∀ j, Pl.nats (l.take j) = (Pl.nats l).take j := fun j => by unfold Pl.nats; rw [List.map_take]
  have hbt : Pl.Bytes ((Pl.nats l).take i) := Pl.bytes_take (Pl.byteB_bytes hb) i
  have hlen : ((Pl.nats l).take i).length = i := by rw [List.length_take, Pl.nats_length]; omega
  have hlt : Pl.leN (Pl.nats (l.take i)) < 2 ^ (8 * i) := by
    have := Pl.leN_lt _ hbt
    rw [hlen] at this
    rw [hn]
    exact this
  refine ⟨b, hb8, by unfold rd; rw [Int.toNat_natCast, hg], hlt, ?_⟩
  rw [Pl.add_eq_xor hlt, hn, hn, ht, Pl.leN_append _ _ hbt, hlen, Nat.xor_comm]
  congr 1
  simp [Pl.leN]
theorem le_Take.loop (l : List Int) (hb : Pl.byteB l = true) (s : Nat) (hs : s ≤ l.length) (hs8 : s ≤ 8) (hl : l.length < 70368744177664) : ∀ (d k i : Nat), i + d = s → d < k →
    le_Take_p.l0 k l (s : Int) ((Pl.leN (Pl.nats (l.take i)) : Nat) : Int) (s : Int) (i : Int) = some (((Pl.leN (Pl.nats (l.take s)) : Nat) : Int), l.drop s, 0)
  | 0, k, i, hi, hk => by
    obtain ⟨k, rfl⟩ : ∃ m, k = m + 1 := ⟨k - 1, by omega⟩
    obtain rfl : i = s := by omega
    simp only [le_Take_p.l0]
    unfold bytes_Clone.f
    rw [if_neg (by omega), if_pos (by omega), if_pos (by omega), Int.toNat_natCast, if_pos (by rw [List.length_drop]; omega), Option.bind_some]
  | d + 1, k, i, hi, hk => by
    obtain ⟨k, rfl⟩ : ∃ m, k = m + 1 := ⟨k - 1, by omega⟩
    obtain ⟨b, hb8, hr, hlt, hgo⟩ := le_Take.grow l hb i (by omega)
    simp only [le_Take_p.l0]
    rw [if_pos (by omega), if_pos (by omega), if_pos (by omega), if_pos (by unfold wrap64; omega), hr, le_Take.step _ b i hlt hb8 (by omega), ← hgo, show wrap64 ((i : Int) + 1) = ((i + 1 : Nat) : Int) from by unfold wrap64; omega]
    exact le_Take.loop l hb s hs hs8 hl d k (i + 1) (by omega) (by omega)
theorem le_Take.tells {l0 : List Int} {a1 : Int} {r : Int × List Int × Int} (h : le_Take.f l0 a1 = some r) : le_Take_p.f 12 l0 a1 = some r := by
  unfold le_Take.f at h
  split at h
  case isFalse => cases h
  rename_i hh
  obtain ⟨h0, h1⟩ := hh
  obtain rfl := Option.some.inj h
  unfold le_Take_p.f
  rw [le_Take.may, Option.bind_some]
  unfold Pl.takeS
  by_cases hs : Pl.okS a1 = true
  · obtain ⟨s, rfl⟩ := Int.eq_ofNat_of_zero_le (show 0 ≤ a1 from by rcases Pl.okS_iff.1 hs with h | h | h | h <;> omega)
    have hs8 : s ≤ 8 := by rcases Pl.okS_iff.1 hs with h | h | h | h <;> omega
    rw [if_pos hs]
    simp only [le_Take_p.j0]
    by_cases hl : (l0.length : Int) < (s : Int)
    · rw [decide_eq_true hl, if_pos rfl, if_neg (by omega)]
    · rw [decide_eq_false hl, if_neg (by decide), if_pos ⟨hs, by omega⟩, Int.toNat_natCast]
      exact le_Take.loop l0 h0 s (by omega) hs8 h1 s 11 0 (by omega) (by omega)
  · rw [if_neg hs, if_neg (fun h => hs h.1)]
    simp only [le_Take_p.j0]
    rfl
theorem le_Take.calls (A0 : Option Addr) (c0 : Nat) (l0 : List Int) (a1 : Int) (r1 : Int) (r2 : List Int) (r3 : Int) (w : World) (hr0 : Kd.C (Kd.int .u8) w A0 l0.length l0) (hc0 : l0.length ≤ c0) (h : le_Take.f l0 a1 = some (r1, r2, r3)) :
    Calls Try.prog 29 #[.slice A0 l0.length c0, .int .i64 a1] w fun e w' => ∃ v1_ : Value, e = .returned (.tuple #[.int .u64 r1, v1_, .int .i64 r3]) ∧ Kd.R (Kd.int .u8) 5 w' w.heap.size (fun _ => True) v1_ r2 ∧ Below w.heap.size w w' :=
  le_Take_p.calls 12 A0 c0 l0 a1 r1 r2 r3 w hr0 hc0 (le_Take.tells h)

end Go.Proofs.Ytiaoehjldbnpkaa.PB
