/- Functions of the program as Lean functions, and that the Go code comes to just their answers: no condition but that the function says so. (Written by a program of this workplace over the kit's print, with contracts by hand.) -/
import Derived.Test.YtiaoehjldbnpkaaPBx0
import Derived.Test.YtiaoehjldbnpkaaPBx20
import Derived.Test.YtiaoehjldbnpkaaPBx23
namespace Go.Proofs.Ytiaoehjldbnpkaa.PB
open Go.RowKit Go.Proofs.YtiaoehjldbnpkaaW.PrintWords Go.Proofs.YtiaoehjldbnpkaaW.PrintLast Go.Proofs.YtiaoehjldbnpkaaW.PrintMore
attribute [local go_sem] max2_int min2_int max_two min_two max_three min_three max_four min_four   -- for this text's walks alone
set_option linter.unusedVariables false
set_option linter.unusedSimpArgs false

/-! ### waggonerref01_Take: function 30 -/
def waggonerref01_Take.f (l0 : List Int) (a1 : Int) : Option (Int × List Int × Int) := if Pl.byteB l0 = true ∧ l0.length < 70368744177664 then some (Pl.takeS l0 a1) else none
theorem waggonerref01_Take.may (s : Int) : waggonerref01_may.f s = some (Pl.okS s) := by
  unfold waggonerref01_may.f Pl.okS
  by_cases h1 : s = 1
  · subst h1; rfl
  by_cases h2 : s = 2
  · subst h2; rfl
  by_cases h4 : s = 4
  · subst h4; rfl
  by_cases h8 : s = 8
  · subst h8; rfl
  simp [h1, h2, h4, h8]
theorem waggonerref01_Take.grow (l : List Int) (hb : Pl.byteB l = true) (s j : Nat) (hs : s ≤ l.length) (hj : j < s) (hs8 : s ≤ 8) : ∃ b : Nat, b < 256 ∧ rd l (j : Int) = (b : Int) ∧ Pl.leN (Pl.nats ((l.take s).drop (j + 1))) < 72057594037927936 ∧ Pl.leN (Pl.nats ((l.take s).drop j)) = 256 * Pl.leN (Pl.nats ((l.take s).drop (j + 1))) + b := by
  have hn : ∀ j, Pl.nats ((l.take s).drop j) = ((Pl.nats l).take s).drop j := fun j => by unfold Pl.nats; rw [List.map_drop, List.map_take]
  have hB : Pl.Bytes (Pl.nats l) := Pl.byteB_bytes hb
  have hjl : j < ((Pl.nats l).take s).length := by rw [List.length_take, Pl.nats_length]; omega
  have hjn : j < (Pl.nats l).length := by rw [Pl.nats_length]; omega
  have hlt : Pl.leN (((Pl.nats l).take s).drop (j + 1)) < 72057594037927936 := by
    have h1 := Pl.leN_lt (((Pl.nats l).take s).drop (j + 1)) (fun x hx => hB x (List.mem_of_mem_take (List.mem_of_mem_drop hx)))
    have h2 : 2 ^ (8 * (((Pl.nats l).take s).drop (j + 1)).length) ≤ 2 ^ 56 := Nat.pow_le_pow_right (by decide) (by rw [List.length_drop, List.length_take]; omega)
    exact Nat.lt_of_lt_of_le h1 h2
  refine ⟨(Pl.nats l)[j]'hjn, hB _ (List.getElem_mem _), ?_, by rw [hn]; exact hlt, ?_⟩
  · exact Kx.rd_nats hb j hjn
  · rw [hn, hn, List.drop_eq_getElem_cons hjl, Pl.leN, List.getElem_take]
theorem waggonerref01_Take.loop (l : List Int) (hb : Pl.byteB l = true) (s : Nat) (hs : s ≤ l.length) (hs8 : s ≤ 8) (hl : l.length < 70368744177664) : ∀ (j k : Nat), j ≤ s → j < k →
    waggonerref01_Take_p.l0 k l (s : Int) ((Pl.leN (Pl.nats ((l.take s).drop j)) : Nat) : Int) ((j : Int) - 1) = some (((Pl.leN (Pl.nats (l.take s)) : Nat) : Int), l.drop s, 0)
  | 0, k, hj, hk => by
    obtain ⟨k, rfl⟩ : ∃ m, k = m + 1 := ⟨k - 1, by omega⟩
    simp only [waggonerref01_Take_p.l0]
    rw [if_neg (by omega), Option.bind_some, if_pos (by omega), if_pos (by omega), Int.toNat_natCast, if_pos (by rw [List.length_drop, List.length_nil]; omega), List.nil_append, List.drop_zero]
  | j + 1, k, hj, hk => by
    obtain ⟨k, rfl⟩ : ∃ m, k = m + 1 := ⟨k - 1, by omega⟩
    obtain ⟨b, hb8, hr, hlt, hgo⟩ := waggonerref01_Take.grow l hb s j hs (by omega) hs8
    have ih := waggonerref01_Take.loop l hb s hs hs8 hl j k (by omega) (by omega)
    rw [hgo] at ih
    obtain ⟨x, hx⟩ : ∃ x, x = Pl.leN (Pl.nats ((l.take s).drop (j + 1))) := ⟨_, rfl⟩
    rw [← hx] at ih hlt ⊢
    simp only [waggonerref01_Take_p.l0]
    rw [show ((j + 1 : Nat) : Int) - 1 = (j : Int) from by omega, if_pos (by omega), if_pos (by omega), if_pos (by omega), hr, IntKind.wrap_u64, IntKind.wrap_u64, IntKind.wrap_u64,
      show ((x : Int) * 256 % 18446744073709551616 + (b : Int) % 18446744073709551616) % 18446744073709551616 = ((256 * x + b : Nat) : Int) from by omega, show wrap64 ((j : Int) - 1) = (j : Int) - 1 from by unfold wrap64; omega]
    exact ih
theorem waggonerref01_Take.tells {l0 : List Int} {a1 : Int} {r : Int × List Int × Int} (h : waggonerref01_Take.f l0 a1 = some r) : waggonerref01_Take_p.f 12 l0 a1 = some r := by
  unfold waggonerref01_Take.f at h
  split at h
  case isFalse => cases h
  rename_i hh
  obtain ⟨h0, h1⟩ := hh
  obtain rfl := Option.some.inj h
  unfold waggonerref01_Take_p.f
  rw [waggonerref01_Take.may, Option.bind_some]
  unfold Pl.takeS
  by_cases hs : Pl.okS a1 = true
  · obtain ⟨s, rfl⟩ := Int.eq_ofNat_of_zero_le (show 0 ≤ a1 from by rcases Pl.okS_iff.1 hs with h | h | h | h <;> omega)
    have hs8 : s ≤ 8 := by rcases Pl.okS_iff.1 hs with h | h | h | h <;> omega
    rw [if_pos hs]
    simp only [waggonerref01_Take_p.j0]
    by_cases hl : (l0.length : Int) < (s : Int)
    · rw [decide_eq_true hl, if_pos rfl, if_neg (by omega)]
    · rw [decide_eq_false hl, if_neg (by decide), if_pos ⟨hs, by omega⟩, Int.toNat_natCast, show wrap64 ((s : Int) - 1) = (s : Int) - 1 from by unfold wrap64; omega]
      have h := waggonerref01_Take.loop l0 h0 s (by omega) hs8 h1 s 11 (by omega) (by omega)
      rw [show (l0.take s).drop s = [] from by rw [List.drop_eq_nil_iff, List.length_take]; omega] at h
      exact h
  · rw [if_neg hs, if_neg (fun h => hs h.1)]
    simp only [waggonerref01_Take_p.j0]
    rfl
theorem waggonerref01_Take.calls (A0 : Option Addr) (c0 : Nat) (l0 : List Int) (a1 : Int) (r1 : Int) (r2 : List Int) (r3 : Int) (w : World) (hr0 : Kd.C (Kd.int .u8) w A0 l0.length l0) (hc0 : l0.length ≤ c0) (h : waggonerref01_Take.f l0 a1 = some (r1, r2, r3)) :
    Calls Try.prog 30 #[.slice A0 l0.length c0, .int .i64 a1] w fun e w' => ∃ v1_ : Value, e = .returned (.tuple #[.int .u64 r1, v1_, .int .i64 r3]) ∧ Kd.R (Kd.int .u8) 5 w' w.heap.size (fun _ => True) v1_ r2 ∧ Below w.heap.size w w' :=
  waggonerref01_Take_p.calls 12 A0 c0 l0 a1 r1 r2 r3 w hr0 hc0 (waggonerref01_Take.tells h)

end Go.Proofs.Ytiaoehjldbnpkaa.PB
