/- Functions of the program as Lean functions, and that the Go code comes to just their answers: no condition but that the function says so. (Written by a program of this workplace over the kit's print, with contracts by hand.) -/
import Derived.Test.YtiaoehjldbnpkaaPAx0
namespace Go.Proofs.Ytiaoehjldbnpkaa.PA
open Go.RowKit Go.Proofs.YtiaoehjldbnpkaaW.PrintWords Go.Proofs.YtiaoehjldbnpkaaW.PrintLast Go.Proofs.YtiaoehjldbnpkaaW.PrintMore
attribute [local go_sem] max2_int min2_int max_two min_two max_three min_three max_four min_four   -- for this text's walks alone
set_option linter.unusedVariables false
set_option linter.unusedSimpArgs false

/-! ### crc_matrix_times: function 39 -/
/-- A matrix of thirty-two columns. -/
def matA (f : Nat → Nat) : Array Value := Arr.numA .u32 32 (fun i => (f i : Int))
theorem matA_in {w : World} {g t : Nat} {f : Nat → Nat} (h : w.heap[g]? = some (.cells (matA f) t (0, 0))) : Arr.IsA w g t .u32 32 (fun i => (f i : Int)) := h
set_option maxHeartbeats 2000000 in
theorem crc_matrix_times.calls (f : Nat → Nat) (n : Nat) (w : World) (hf : ∀ i, i < 32 → f i < 4294967296) (hn : n < 4294967296) :
    Calls Try.prog 39 #[.agg (matA f), .int .u32 (n : Int)] w fun e w' => e = .returned (.int .u32 ((Pl.colTo f n 32 : Nat) : Int)) ∧ Below w.heap.size w w' := by
  have HF := Aside0.mk hf
  clear hf
  obtain ⟨B, hB⟩ : ∃ B, B = w.heap.size := ⟨_, rfl⟩
  have HBN := Aside0.mk hB
  clear hB
  go_enter Try.func39, Try.ntmps39
  go_wp2
  rw [← HBN.out]
  go_loopw [4, 6] (fun s i wr => ∃ (x : Nat) (k : Nat), k ≤ 32 ∧ i = .int .i64 k ∧ s = .int .u32 (x : Int) ∧ x < 4294967296 ∧ Aside0 (x = Pl.colTo f n k) ∧ Aside0 (wr.heap[B]? = some (.cells (matA f) 61 (0, 0))) ∧ Aside0 (Below w.heap.size w wr)) (fun _ i _ => 32 - (intOf i).toNat)
  case atStart => exact ⟨0, 0, by decide, rfl, rfl, by decide, ⟨rfl⟩, ⟨by rw [HBN.out]; exact heap_alloc_new w _⟩, ⟨(Below.refl _ _).alloc (Nat.le_refl _) _⟩⟩
  case round =>
    obtain ⟨x, k, hk, rfl, rfl, hx, hxe, hM, hBel⟩ := hrel
    by_cases hlt : k < 32
    · have t1 := (matA_in hM.out).cell k hlt
      have hfk := HF.out k hlt
      obtain ⟨v, hv0⟩ : ∃ v, v = f k := ⟨_, rfl⟩
      rw [← hv0] at t1 hfk
      have hv := Aside0.mk hv0
      clear hv0
      have hnk : n / 2 ^ k < 4294967296 := Nat.lt_of_le_of_lt (Nat.div_le_self _ _) hn
      have qa : bits .and .u32 ((n : Int) / 2 ^ k) 1 = ((n / 2 ^ k % 2 : Nat) : Int) := by
        rw [show (n : Int) / 2 ^ k = ((n / 2 ^ k : Nat) : Int) from by push_cast; rfl, show (1 : Int) = ((1 : Nat) : Int) from rfl, Arr.a32 hnk (by decide), nat_mask1]
      obtain ⟨y, hy⟩ : ∃ y, y = Pl.colTo f n (k + 1) := ⟨_, rfl⟩
      have HY := Aside0.mk hy
      rw [Pl.colTo] at hy
      rcases Nat.mod_two_eq_zero_or_one (n / 2 ^ k) with e | e
      · rw [e] at qa
        rw [if_neg (by omega), Nat.xor_zero, ← hxe.out] at hy
        subst hy
        have qa' : bits .and .u32 ((n : Int) / 2 ^ k) 1 = 0 := qa
        have qb : bits .and .u32 (v : Int) 0 = 0 := by rw [show (0 : Int) = ((0 : Nat) : Int) from rfl, Arr.a32 hfk (by decide), Nat.and_zero]
        have qc : bits .xor .u32 (y : Int) 0 = (y : Int) := by rw [show (0 : Int) = ((0 : Nat) : Int) from rfl, Arr.x32 hx (by decide), Nat.xor_zero]
        clear qa e hnk
        go_wp2
        go_quiet (fail)
        go_wp2
        go_roundw
        case rel => exact ⟨y, k + 1, by omega, by go_num, rfl, hx, HY, hM, ⟨pw_below_drewN hBel.out _⟩⟩
        case measure => simp [intOf]; omega
      · rw [e] at qa
        rw [if_pos e, ← hxe.out, ← hv.out] at hy
        have qa' : bits .and .u32 ((n : Int) / 2 ^ k) 1 = 1 := qa
        have qb : bits .and .u32 (v : Int) 4294967295 = (v : Int) := by
          rw [show (4294967295 : Int) = ((4294967295 : Nat) : Int) from rfl, Arr.a32 hfk (by decide), show (4294967295 : Nat) = 2 ^ 32 - 1 from rfl, Nat.and_two_pow_sub_one_eq_mod, Nat.mod_eq_of_lt hfk]
        have qc : bits .xor .u32 (x : Int) (v : Int) = (y : Int) := by rw [Arr.x32 hx hfk, hy]
        have hy32 : y < 4294967296 := by rw [hy]; exact Pl.xor_lt hx hfk
        clear qa e hnk hy
        go_wp2
        go_quiet (fail)
        go_wp2
        go_roundw
        case rel => exact ⟨y, k + 1, by omega, by go_num, rfl, hy32, HY, hM, ⟨pw_below_drewN hBel.out _⟩⟩
        case measure => simp [intOf]; omega
    · have hke : Aside0 (k = 32) := ⟨by omega⟩
      go_wp2
      go_ret
      exact ⟨congrArg (fun z : Nat => Ending.returned (.int .u32 (z : Int))) (hxe.out.trans (by rw [hke.out])), hBel.out⟩

end Go.Proofs.Ytiaoehjldbnpkaa.PA
