/- Functions of the program as Lean functions, and that the Go code comes to just their answers: no condition but that the function says so. (Written by a program of this workplace over the kit's print, with contracts by hand.) -/
import Derived.Test.YtiaoehjldbnpkaaPBx0
import Derived.Test.YtiaoehjldbnpkaaPBx13
namespace Go.Proofs.Ytiaoehjldbnpkaa.PB
open Go.RowKit Go.Proofs.YtiaoehjldbnpkaaW.PrintWords Go.Proofs.YtiaoehjldbnpkaaW.PrintLast Go.Proofs.YtiaoehjldbnpkaaW.PrintMore
attribute [local go_sem] max2_int min2_int max_two min_two max_three min_three max_four min_four   -- for this text's walks alone
set_option linter.unusedVariables false
set_option linter.unusedSimpArgs false

/-! ### le_size: function 44 -/
def le_size.f (a0 : Int) : Option Int := if 0 ≤ a0 ∧ a0 ≤ 2147483647 then some (Pl.letS a0) else none
/-- The place of a letter, as the code finds it, and its size. -/
theorem le_size.place (a0 : Int) (h0 : 0 ≤ a0) (h1 : a0 ≤ 2147483647) : ∃ i : Int, ((i = 0 ∧ Pl.letS a0 = 1) ∨ (i = 1 ∧ Pl.letS a0 = 2) ∨ (i = 2 ∧ Pl.letS a0 = 4) ∨ (i = 3 ∧ Pl.letS a0 = 8) ∨ (i = -1 ∧ Pl.letS a0 = 0)) ∧
    ∀ w : World, Calls Try.prog 46 #[.string Pl.bhwq, .int .i32 a0] w fun e w' => e = .returned (.int .i64 i) ∧ Below w.heap.size w w' := by
  obtain ⟨r, rfl⟩ := Int.eq_ofNat_of_zero_le h0
  by_cases hl : r < 128
  · refine ⟨firstIdx Pl.bhwq (r : Int).toNat.toUInt8, ?_, fun w => strings_IndexRune.low Pl.bhwq r w h0 (by omega)⟩
    have h := Pl.bhwq_at ⟨r, hl⟩
    rw [Int.toNat_natCast]
    simp only at h
    rw [h]
    unfold Pl.letS
    by_cases h98 : r = 98
    · subst h98; exact Or.inl ⟨rfl, rfl⟩
    by_cases h104 : r = 104
    · subst h104; exact Or.inr (Or.inl ⟨rfl, rfl⟩)
    by_cases h119 : r = 119
    · subst h119; exact Or.inr (Or.inr (Or.inl ⟨rfl, rfl⟩))
    by_cases h113 : r = 113
    · subst h113; exact Or.inr (Or.inr (Or.inr (Or.inl ⟨rfl, rfl⟩)))
    rw [if_neg h98, if_neg h104, if_neg h119, if_neg h113, if_neg (by omega), if_neg (by omega), if_neg (by omega), if_neg (by omega)]
    exact Or.inr (Or.inr (Or.inr (Or.inr ⟨rfl, rfl⟩)))
  · refine ⟨-1, Or.inr (Or.inr (Or.inr (Or.inr ⟨rfl, ?_⟩))), fun w => ?_⟩
    · unfold Pl.letS
      rw [if_neg (by omega), if_neg (by omega), if_neg (by omega), if_neg (by omega)]
    · by_cases he : r = 65533
      · subst he
        exact strings_IndexRune.none' Pl.bhwq w Pl.bhwq_get
      · exact strings_IndexRune.high Pl.bhwq r w Pl.bhwq_ascii (by decide) (by decide) (by omega) (by omega) he
set_option maxHeartbeats 2000000 in
theorem le_size.calls (a0 : Int) (r : Int) (w : World) (h : le_size.f a0 = some r) :
    Calls Try.prog 44 #[.int .i32 a0] w fun e w' => e = .returned (.int .i64 r) ∧ Below w.heap.size w w' := by
  unfold le_size.f at h
  split at h
  case isFalse => cases h
  rename_i hh
  obtain ⟨h0, h1⟩ := hh
  obtain rfl := Option.some.inj h
  clear h
  obtain ⟨i, hi, HC⟩ := le_size.place a0 h0 h1
  obtain ⟨z, hz⟩ : ∃ z, z = Pl.letS a0 := ⟨_, rfl⟩
  rw [← hz] at hi ⊢
  clear hz
  unfold Pl.bhwq at HC
  have HC' := Aside0.mk HC
  clear HC h0 h1
  rcases hi with ⟨rfl, rfl⟩ | ⟨rfl, rfl⟩ | ⟨rfl, rfl⟩ | ⟨rfl, rfl⟩ | ⟨rfl, rfl⟩ <;>
  · go_enter Try.func44, Try.ntmps44
    go_wp2_with (first | (go_at_call 46; refine (HC'.out _).mono ?_; rintro e w' ⟨rfl, hb⟩; have HB := Aside0.mk hb; clear hb))
    go_ret
    exact ⟨rfl, HB.out⟩

end Go.Proofs.Ytiaoehjldbnpkaa.PB
