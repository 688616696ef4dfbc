/- Functions of the program as Lean functions, and that the Go code comes to just their answers: no condition but that the function says so. (Written by a program of this workplace over the kit's print, with contracts by hand.) -/
import Derived.Test.YtiaoehjldbnpkaaPAx0
import Derived.Test.YtiaoehjldbnpkaaPAx1
namespace Go.Proofs.Ytiaoehjldbnpkaa.PA
open Go.RowKit Go.Proofs.YtiaoehjldbnpkaaW.PrintWords Go.Proofs.YtiaoehjldbnpkaaW.PrintLast Go.Proofs.YtiaoehjldbnpkaaW.PrintMore
attribute [local go_sem] max2_int min2_int max_two min_two max_three min_three max_four min_four   -- for this text's walks alone
set_option linter.unusedVariables false
set_option linter.unusedSimpArgs false

/-! ### crc_More: function 19 -/
def crc_More.f (a0 : Int) (l1 : List Int) : Option Int := if 0 ≤ a0 ∧ a0 < 4294967296 ∧ Pl.byteB l1 = true then some ((Pl.more a0.toNat (Pl.nats l1) : Nat) : Int) else none
set_option maxHeartbeats 2000000 in
theorem crc_More.calls (a0 : Int) (A1 : Option Addr) (c1 : Nat) (l1 : List Int) (r : Int) (w : World) (hr1 : Kd.C (Kd.int .u8) w A1 l1.length l1) (hc1 : l1.length ≤ c1) (h : crc_More.f a0 l1 = some r) :
    Calls Try.prog 19 #[.int .u32 a0, .slice A1 l1.length c1] w fun e w' => e = .returned (.int .u32 r) ∧ Below w.heap.size w w' := by
  unfold crc_More.f at h
  split at h
  case isFalse => cases h
  rename_i hh
  obtain ⟨h0, h1, hb⟩ := hh
  obtain ⟨a, rfl⟩ := Int.eq_ofNat_of_zero_le h0
  rw [Int.toNat_natCast] at h
  have ha : a < 4294967296 := by omega
  obtain rfl := Option.some.inj h
  have HR1 := Aside0.mk hr1
  have hlen : l1.length ≤ 9223372036854775807 := hr1.2.1
  have HBY := Aside0.mk hb
  clear h0 h1 hb h hr1 hc1
  have e0 : bits .xor .u32 (a : Int) 4294967295 = ((Pl.inv a : Nat) : Int) := Arr.x32 ha (by decide)
  obtain ⟨B, hB⟩ : ∃ B, B = w.heap.size + 1 := ⟨_, rfl⟩
  have HBN := Aside0.mk hB
  clear hB
  go_enter Try.func19, Try.ntmps19
  go_wp2_with (first | (go_at_call 37; refine (crc_halves.calls _).mono ?_; rintro e w' ⟨rfl, rfl⟩) | ((with_reducible refine Arr.wpList_store_row rfl 57 (.tmp 5) (.tmp 8) rfl rfl (w.heap.size + 1) rfl 57 _ halvesA rfl (heap_alloc2_new w _ _) (by kernel_rfl) rfl (by kernel_rfl) ?_)))
  rw [← HBN.out]
  go_loopw [0, 13] (fun s i wr => ∃ (n : Nat) (k : Nat), k ≤ l1.length ∧ i = .int .i64 k ∧ s = .int .u32 (n : Int) ∧ n < 4294967296 ∧ Aside0 (n = Pl.raw (Pl.inv a) ((Pl.nats l1).take k)) ∧ Aside0 (wr.heap[B]? = some (.cells halvesA 57 (0, 0))) ∧ Aside0 (Below w.heap.size w wr)) (fun _ i _ => l1.length - (intOf i).toNat)
  case atStart =>
    refine ⟨Pl.inv a, 0, Nat.zero_le _, rfl, rfl, Pl.inv_lt ha, ⟨by rw [List.take_zero, Pl.raw_nil]⟩, ⟨?_⟩, ⟨?_⟩⟩
    · rw [HBN.out]; exact setRow_heap _ _ _ _ _ _ (heap_alloc2_new w _ _)
    · rw [HBN.out]; exact below_setRow (((Below.refl _ _).alloc (Nat.le_refl _) _).alloc (by simp) _) (by omega) _
  case round =>
    obtain ⟨n, k, hk, rfl, rfl, hn, hst, hT, hBel⟩ := hrel
    by_cases hlt : k < l1.length
    · obtain ⟨x, hx, hxr, htk⟩ := Pl.byteB_at HBY.out k hlt
      have hxr : rd l1 (k : Int) = (x : Int) := by unfold rd; rw [Int.toNat_natCast]; exact hxr
      obtain ⟨ad, hA, hcell⟩ := Kd.at_int (Kd.C_below HR1.out hBel.out) (k : Int) (by omega) (by omega)
      subst hA
      rw [hxr] at hcell
      simp only [Int.toNat_natCast] at hcell
      -- the numbers on the way
      obtain ⟨y, hy⟩ : ∃ y, y = n ^^^ x := ⟨_, rfl⟩
      have hy32 : y < 4294967296 := by rw [hy]; exact Pl.xor_lt hn (by omega)
      have q1 : bits .xor .u32 (n : Int) (x : Int) = (y : Int) := by rw [hy]; exact Arr.x32 hn (by omega)
      obtain ⟨i1, hi1⟩ : ∃ i, i = y % 16 := ⟨_, rfl⟩
      have q2 : bits .and .u32 (y : Int) 15 = (i1 : Int) := by rw [hi1]; exact (Arr.a32 hy32 (by decide)).trans (by rw [nat_mask4])
      have hi1' : i1 < 16 := by omega
      have t1 := (halves_in wr B hT.out).cell i1 hi1'
      obtain ⟨v1, hv1⟩ : ∃ v, v = Pl.stpN 4 i1 := ⟨_, rfl⟩
      have hv1' : v1 < 4294967296 := by rw [hv1]; exact Pl.stpN_lt 4 (by omega)
      rw [← hv1] at t1
      obtain ⟨z, hz⟩ : ∃ z, z = Pl.half y := ⟨_, rfl⟩
      have hz32 : z < 4294967296 := by rw [hz, Pl.half_eq]; exact Pl.stpN_lt 4 hy32
      have q3 : bits .xor .u32 ((y : Int) / 16) (v1 : Int) = (z : Int) := by
        rw [show (y : Int) / 16 = ((y / 16 : Nat) : Int) from by omega, Arr.x32 (by omega) hv1', hz, Pl.half, hv1, hi1]
      obtain ⟨i2, hi2⟩ : ∃ i, i = z % 16 := ⟨_, rfl⟩
      have q4 : bits .and .u32 (z : Int) 15 = (i2 : Int) := by rw [hi2]; exact (Arr.a32 hz32 (by decide)).trans (by rw [nat_mask4])
      have hi2' : i2 < 16 := by omega
      have t2 := (halves_in wr B hT.out).cell i2 hi2'
      obtain ⟨v2, hv2⟩ : ∃ v, v = Pl.stpN 4 i2 := ⟨_, rfl⟩
      have hv2' : v2 < 4294967296 := by rw [hv2]; exact Pl.stpN_lt 4 (by omega)
      rw [← hv2] at t2
      obtain ⟨u, hu⟩ : ∃ u, u = Pl.half z := ⟨_, rfl⟩
      have q5 : bits .xor .u32 ((z : Int) / 16) (v2 : Int) = (u : Int) := by
        rw [show (z : Int) / 16 = ((z / 16 : Nat) : Int) from by omega, Arr.x32 (by omega) hv2', hu, Pl.half, hv2, hi2]
      have hu32 : u < 4294967296 := by rw [hu, Pl.half_eq]; exact Pl.stpN_lt 4 hz32
      have hfin : Aside0 (u = Pl.raw (Pl.inv a) ((Pl.nats l1).take (k + 1))) := ⟨by rw [htk, Pl.raw_snoc, ← hst.out, hu, hz, hy, Pl.half_half]⟩
      clear hy hi1 hv1 hz hi2 hv2 hu htk hxr hst e0
      go_wp2
      go_roundw
      case rel => exact ⟨u, k + 1, by omega, by go_num, rfl, hu32, hfin, hT, hBel⟩
      case measure => simp [intOf]; omega
    · have hke : Aside0 (k = l1.length) := ⟨by omega⟩
      have e1 : bits .xor .u32 (n : Int) 4294967295 = ((Pl.inv n : Nat) : Int) := Arr.x32 hn (by decide)
      clear e0
      go_wp2
      go_ret
      refine ⟨?_, hBel.out⟩
      rw [hst.out, hke.out, List.take_of_length_le (by simp [Pl.nats])]
      rfl
theorem crc_More.tells (s : Nat) (l : List Int) (hs : s < 4294967296) (h : Pl.byteB l = true) : crc_More.f (s : Int) l = some ((Pl.more s (Pl.nats l) : Nat) : Int) := by
  unfold crc_More.f
  rw [if_pos ⟨by omega, by omega, h⟩, Int.toNat_natCast]

end Go.Proofs.Ytiaoehjldbnpkaa.PA
