/- Functions of the program as Lean functions, and that the Go code comes to just their answers: no condition but that the function says so. (Written by a program of this workplace over the kit's print, with contracts by hand.) -/
import Derived.Test.YtiaoehjldbnpkaaPAx0
import Derived.Test.YtiaoehjldbnpkaaPAx1
import Derived.Test.YtiaoehjldbnpkaaPAx14
namespace Go.Proofs.Ytiaoehjldbnpkaa.PA
open Go.RowKit Go.Proofs.YtiaoehjldbnpkaaW.PrintWords Go.Proofs.YtiaoehjldbnpkaaW.PrintLast Go.Proofs.YtiaoehjldbnpkaaW.PrintMore
attribute [local go_sem] max2_int min2_int max_two min_two max_three min_three max_four min_four   -- for this text's walks alone
set_option linter.unusedVariables false
set_option linter.unusedSimpArgs false

/-! ### crc_Join: function 22 -/
/-- What holds at the label: m pairs of matrices are to come, each of e steps. -/
structure JoinInv (a N x m e : Nat) : Prop where
  lt : x < 4294967296
  m30 : m ≤ 1073741824
  goes : Pl.stpN (e * m) x = Pl.stpN (8 * N) a
theorem mat_size (f g : Nat → Nat) : (matA f).size = (matA g).size := (Arr.numA_size _ _ _).trans (Arr.numA_size _ _ _).symm
theorem mat_info (f : Nat → Nat) : (Try.prog.info? 61).map (·.size) = some (matA f).size := by
  rw [show (matA f).size = 32 from Arr.numA_size _ _ _]
  kernel_rfl
theorem join_info : (Try.prog.info? 22).map (fun i => (i.zero, i.size, i.bytes)) = some (some (.int .u32 0), 1, 4) := by kernel_rfl
set_option maxHeartbeats 8000000 in
set_option maxRecDepth 100000 in
theorem crc_Join.core (a b : Nat) (n : Int) (w : World) (ha : a < 4294967296) (hb : b < 4294967296) :
    Calls Try.prog 22 #[.int .u32 (a : Int), .int .u32 (b : Int), .int .i64 n] w fun e w' => e = .returned (.int .u32 ((Pl.join a b n : Nat) : Int)) ∧ Below w.heap.size w w' := by
  obtain ⟨B, hB⟩ : ∃ B, B = w.heap.size + 1 := ⟨_, rfl⟩
  have HBN := Aside0.mk hB
  clear hB
  obtain ⟨C, hC⟩ : ∃ C, C = w.heap.size + 1 + 1 := ⟨_, rfl⟩
  have HCN := Aside0.mk hC
  clear hC
  obtain ⟨N, hN⟩ : ∃ N : Nat, (N : Int) = min (max n 0) 1073741824 := ⟨(min (max n 0) 1073741824).toNat, by omega⟩
  have HNN := Aside0.mk hN
  clear hN
  go_enter Try.func22, Try.ntmps22
  go_wp2
  refine Arr.wp_scope_once 0 (fun a' w' => ∃ (x m e : Nat) (u3 u4 u5 u9 u10 u11 u12 u13 u14 u15 u16 u17 u18 u19 u20 u21 u22 u23 u24 u25 u26 u27 u28 u29 u30 u31 u32 u33 u34 u35 u36 u37 u38 u39 u40 u41 u42 u43 u44 u45 u46 u47 u48 u49 u50 u51 u52 u53 u54 u55 u56 u57 u58 u59 u60 u61 u62 u63 u64 : Value), a' = { tmps := #[.int .u32 (x : Int), .int .u32 (b : Int), .int .i64 (m : Int), u3, u4, u5, .int .u32 0, .pointer (some ⟨B, 0, none⟩), .pointer (some ⟨C, 0, none⟩), u9, u10, u11, u12, u13, u14, u15, u16, u17, u18, u19, u20, u21, u22, u23, u24, u25, u26, u27, u28, u29, u30, u31, u32, u33, u34, u35, u36, u37, u38, u39, u40, u41, u42, u43, u44, u45, u46, u47, u48, u49, u50, u51, u52, u53, u54, u55, u56, u57, u58, u59, u60, u61, u62, u63, u64], defers := [] } ∧ JoinInv a N x m e ∧ Aside0 (w'.heap[C]? = some (.cells (matA (fun i => Pl.stpN e (2 ^ i))) 61 (0, 0))) ∧ Aside0 (Below w.heap.size w w')) (fun a' _ => (intOf (a'.tmps.getD 2 undef)).toNat) rfl (fun hgo => ?_) ?_
  · have HG := Aside0.mk hgo
    clear hgo
    go_wp2_with (first | (go_at_call 37; refine (crc_halves.calls _).mono ?_; rintro e w' ⟨rfl, rfl⟩) | ((with_reducible refine Arr.wpList_store_row rfl 57 (.tmp 7) (.tmp 14) rfl rfl (w.heap.size + 1) rfl 57 _ halvesA rfl (heap_alloc2_new w _ _) (by kernel_rfl) rfl (by kernel_rfl) ?_)))
    rw [← HCN.out, ← HBN.out]
    go_loopw [15] (fun i wr => ∃ (k : Nat), k ≤ 32 ∧ i = .int .i64 k ∧ Aside0 (wr.heap[B]? = some (.cells halvesA 57 (0, 0))) ∧ Aside0 (wr.heap[C]? = some (.cells (matA (fun i => if i < k then Pl.stpN 8 (2 ^ i) else 0)) 61 (0, 0))) ∧ Aside0 (Below w.heap.size w wr)) (fun i _ => 32 - (intOf i).toNat)
    case atStart =>
      refine ⟨0, by decide, rfl, ⟨?_⟩, ⟨?_⟩, ⟨?_⟩⟩
      · rw [HBN.out]; exact (heap_alloc_old _ _ (by simp)).trans (setRow_heap _ _ _ _ _ _ (heap_alloc2_new w _ _))
      · have e0 : matA (fun i => if i < 0 then Pl.stpN 8 (2 ^ i) else 0) = #[.int .u32 0, .int .u32 0, .int .u32 0, .int .u32 0, .int .u32 0, .int .u32 0, .int .u32 0, .int .u32 0, .int .u32 0, .int .u32 0, .int .u32 0, .int .u32 0, .int .u32 0, .int .u32 0, .int .u32 0, .int .u32 0, .int .u32 0, .int .u32 0, .int .u32 0, .int .u32 0, .int .u32 0, .int .u32 0, .int .u32 0, .int .u32 0, .int .u32 0, .int .u32 0, .int .u32 0, .int .u32 0, .int .u32 0, .int .u32 0, .int .u32 0, .int .u32 0] := by kernel_rfl
        rw [e0]
        obtain ⟨X, hX⟩ : ∃ X, X = ((w.alloc (.cells halvesA 57)).alloc (.cells #[.int .u32 0, .int .u32 0, .int .u32 0, .int .u32 0, .int .u32 0, .int .u32 0, .int .u32 0, .int .u32 0, .int .u32 0, .int .u32 0, .int .u32 0, .int .u32 0, .int .u32 0, .int .u32 0, .int .u32 0, .int .u32 0] 57)).setRow B halvesA := ⟨_, rfl⟩
        rw [← hX]
        have hs : X.heap.size = C := by rw [hX, HCN.out]; simp
        rw [← hs]
        exact heap_alloc_new X _
      · rw [HBN.out]; exact (below_setRow (((Below.refl _ _).alloc (Nat.le_refl _) _).alloc (by simp) _) (by omega) _).alloc (by simp; omega) _
    case round =>
      obtain ⟨k, hk, rfl, hT, hM, hBel⟩ := hrel
      by_cases hlt : k < 32
      · obtain ⟨z, hz⟩ : ∃ z, z = 2 ^ k := ⟨_, rfl⟩
        have hz32 : z < 4294967296 := by rw [hz]; exact Nat.pow_lt_pow_right (m := k) (n := 32) (by decide) hlt
        have q0 : (2 : Int) ^ k % 4294967296 = (z : Int) := by
          rw [show (2 : Int) ^ k = ((2 ^ k : Nat) : Int) from by push_cast; rfl, ← hz]
          omega
        obtain ⟨i1, hi1⟩ : ∃ i, i = z % 16 := ⟨_, rfl⟩
        have q2 : bits .and .u32 (z : Int) 15 = (i1 : Int) := by rw [hi1]; exact (Arr.a32 hz32 (by decide)).trans (by rw [nat_mask4])
        have hi1' : i1 < 16 := by omega
        have t1 := (halves_in wr B hT.out).cell i1 hi1'
        obtain ⟨v1, hv1⟩ : ∃ v, v = Pl.stpN 4 i1 := ⟨_, rfl⟩
        have hv1' : v1 < 4294967296 := by rw [hv1]; exact Pl.stpN_lt 4 (by omega)
        rw [← hv1] at t1
        obtain ⟨y, hy⟩ : ∃ y, y = Pl.half z := ⟨_, rfl⟩
        have hy32 : y < 4294967296 := by rw [hy, Pl.half_eq]; exact Pl.stpN_lt 4 hz32
        have q3 : bits .xor .u32 ((z : Int) / 16) (v1 : Int) = (y : Int) := by
          rw [show (z : Int) / 16 = ((z / 16 : Nat) : Int) from by omega, Arr.x32 (by omega) hv1', hy, Pl.half, hv1, hi1]
        obtain ⟨i2, hi2⟩ : ∃ i, i = y % 16 := ⟨_, rfl⟩
        have q4 : bits .and .u32 (y : Int) 15 = (i2 : Int) := by rw [hi2]; exact (Arr.a32 hy32 (by decide)).trans (by rw [nat_mask4])
        have hi2' : i2 < 16 := by omega
        have t2 := (halves_in wr B hT.out).cell i2 hi2'
        obtain ⟨v2, hv2⟩ : ∃ v, v = Pl.stpN 4 i2 := ⟨_, rfl⟩
        have hv2' : v2 < 4294967296 := by rw [hv2]; exact Pl.stpN_lt 4 (by omega)
        rw [← hv2] at t2
        obtain ⟨u, hu⟩ : ∃ u, u = Pl.half y := ⟨_, rfl⟩
        have q5 : bits .xor .u32 ((y : Int) / 16) (v2 : Int) = (u : Int) := by
          rw [show (y : Int) / 16 = ((y / 16 : Nat) : Int) from by omega, Arr.x32 (by omega) hv2', hu, Pl.half, hv2, hi2]
        have hfin : Aside0 (u = Pl.stpN 8 (2 ^ k)) := ⟨by rw [hu, hy, Pl.half_half, hz]⟩
        have tc := (matA_in hM.out).cell k hlt
        have tf := (matA_in hM.out).free k
        have hBC : Aside0 (B ≠ C) := ⟨by rw [HBN.out, HCN.out]; omega⟩
        have hset : Aside0 ((wr.setCell ⟨C, k, none⟩ (.int .u32 (u : Int))).heap[C]? = some (.cells (matA (fun i => if i < k + 1 then Pl.stpN 8 (2 ^ i) else 0)) 61 (0, 0))) := ⟨by
          refine ((matA_in hM.out).set k hlt (u : Int)).congr fun i hi => ?_
          show (if i = k then (u : Int) else ((if i < k then Pl.stpN 8 (2 ^ i) else 0 : Nat) : Int)) = ((if i < k + 1 then Pl.stpN 8 (2 ^ i) else 0 : Nat) : Int)
          by_cases e : i = k
          · subst e; rw [if_pos rfl, if_pos (by omega), hfin.out]
          · rw [if_neg e]
            by_cases e2 : i < k
            · rw [if_pos e2, if_pos (by omega)]
            · rw [if_neg e2, if_neg (by omega)]⟩
        clear hy hi1 hv1 hz hi2 hv2 hu hM
        go_wp2
        go_roundw
        case rel => exact ⟨k + 1, by omega, by go_num, ⟨(heap_setCell_other _ _ _ _ hBC.out).trans hT.out⟩, hset, ⟨hBel.out.setCell (by rw [HCN.out]; simp; omega) _⟩⟩
        case measure => simp [intOf]; omega
      · have hk32 : k = 32 := by omega
        have hke := Aside0.mk hk32
        clear hk32
        have hM' : Aside0 (wr.heap[C]? = some (.cells (matA (fun i => Pl.stpN 8 (2 ^ i))) 61 (0, 0))) := ⟨by
          rw [hM.out]
          congr 2
          exact Arr.numA_congr fun i hi => by show ((if i < k then Pl.stpN 8 (2 ^ i) else 0 : Nat) : Int) = _; rw [if_pos (by have := hke.out; omega)]⟩
        clear hM
        rcases (show n < 0 ∨ (0 ≤ n ∧ n ≤ 1073741824) ∨ 1073741824 < n from by omega) with h3 | ⟨h3, h4⟩ | h3
        · have hN0 : N = 0 := by have := HNN.out; omega
          subst hN0
          go_wp2
          go_step3
          have h0 : (0 : Int) = ((0 : Nat) : Int) := rfl
          refine ‹∀ (a : Act) (w : World), Code.wp Try.prog _ _ a w → _› _ _ (HG.out _ _ ⟨a, 0, 8, ?_⟩)
          refine ⟨_, _, _, _, _, _, _, _, _, _, _, _, _, _, _, _, _, _, _, _, _, _, _, _, _, _, _, _, _, _, _, _, _, _, _, _, _, _, _, _, _, _, _, _, _, _, _, _, _, _, _, _, _, _, _, _, _, _, _, rfl, ⟨ha, by decide, by rw [Nat.mul_zero]⟩, hM', hBel⟩
        · obtain ⟨m, rfl⟩ := Int.eq_ofNat_of_zero_le h3
          have hN0 : N = m := by have := HNN.out; omega
          subst hN0
          go_wp2
          go_step3
          refine ‹∀ (a : Act) (w : World), Code.wp Try.prog _ _ a w → _› _ _ (HG.out _ _ ⟨a, N, 8, ?_⟩)
          refine ⟨_, _, _, _, _, _, _, _, _, _, _, _, _, _, _, _, _, _, _, _, _, _, _, _, _, _, _, _, _, _, _, _, _, _, _, _, _, _, _, _, _, _, _, _, _, _, _, _, _, _, _, _, _, _, _, _, _, _, _, rfl, ⟨ha, by omega, rfl⟩, hM', hBel⟩
        · have hN0 : N = 1073741824 := by have := HNN.out; omega
          subst hN0
          go_wp2
          go_step3
          refine ‹∀ (a : Act) (w : World), Code.wp Try.prog _ _ a w → _› _ _ (HG.out _ _ ⟨a, 1073741824, 8, ?_⟩)
          refine ⟨_, _, _, _, _, _, _, _, _, _, _, _, _, _, _, _, _, _, _, _, _, _, _, _, _, _, _, _, _, _, _, _, _, _, _, _, _, _, _, _, _, _, _, _, _, _, _, _, _, _, _, _, _, _, _, _, _, _, _, rfl, ⟨ha, by decide, rfl⟩, hM', hBel⟩
  · rintro a' w' ⟨x, m, e, u3, u4, u5, u9, u10, u11, u12, u13, u14, u15, u16, u17, u18, u19, u20, u21, u22, u23, u24, u25, u26, u27, u28, u29, u30, u31, u32, u33, u34, u35, u36, u37, u38, u39, u40, u41, u42, u43, u44, u45, u46, u47, u48, u49, u50, u51, u52, u53, u54, u55, u56, u57, u58, u59, u60, u61, u62, u63, u64, rfl, hinv, hM, hBel⟩
    obtain ⟨hx, hm30, hg⟩ := hinv
    have HG := Aside0.mk hg
    clear hg
    by_cases hm0 : m = 0
    · subst hm0
      have q : bits .xor .u32 (x : Int) (b : Int) = ((x ^^^ b : Nat) : Int) := Arr.x32 hx hb
      obtain ⟨y, hy⟩ : ∃ y, y = x ^^^ b := ⟨_, rfl⟩
      rw [← hy] at q
      have HY := Aside0.mk hy
      clear hy
      go_wp2
      simp only [Exit.jump]
      go_ret
      refine ⟨?_, hBel.out⟩
      have e1 := HG.out
      rw [Nat.mul_zero, Pl.stpN] at e1
      have e2 : (min (max n 0) 1073741824).toNat = N := by have := HNN.out; omega
      unfold Pl.join
      rw [HY.out, e1, e2]
      rfl
    · have d0 : ((m : Int) == 0) = false := by simp; omega
      have qm : bits .and .i64 (m : Int) 1 = (m : Int) % 2 := bits_mask .i64 63 (by decide) (fun n h0 h1 => by rw [IntKind.wrap_i64]; omega) 1 (by decide) m (by omega) (by omega)
      have hf : ∀ i, i < 32 → Pl.stpN e (2 ^ i) < 4294967296 := fun i hi => Pl.stpN_lt e (Nat.pow_lt_pow_right (m := i) (n := 32) (by decide) hi)
      have HF := Aside0.mk hf
      clear hf
      obtain ⟨j, hj⟩ : ∃ j, j = m / 2 := ⟨_, rfl⟩
      have HJ := Aside0.mk hj
      clear hj
      go_upto_if 47 with ((fail))
      go_cut [0, 48, 49, 50] (fun s a1 a2 a3 wc => ∃ y : Nat, s = .int .u32 (y : Int) ∧ y < 4294967296 ∧ Aside0 (Pl.stpN (e * (2 * j)) y = Pl.stpN (8 * N) a) ∧ Aside0 (wc.heap[C]? = some (.cells (matA (fun i => Pl.stpN e (2 ^ i))) 61 (0, 0))) ∧ Aside0 (Below w.heap.size w wc))
      case first =>
        rcases Nat.mod_two_eq_zero_or_one m with h2 | h2
        · have q2 : (m : Int) % 2 = 0 := by omega
          have hgo : Aside0 (Pl.stpN (e * (2 * j)) x = Pl.stpN (8 * N) a) := ⟨by rw [← HG.out, show 2 * j = m from by have := HJ.out; omega]⟩
          clear h2
          go_wp2
          go_meet
          case rel => exact ⟨x, rfl, hx, hgo, hM, hBel⟩
        · have q2 : (m : Int) % 2 = 1 := by omega
          obtain ⟨y, hy⟩ : ∃ y, y = Pl.colTo (fun i => Pl.stpN e (2 ^ i)) x 32 := ⟨_, rfl⟩
          have hye : y = Pl.stpN e x := by rw [hy]; exact Pl.col_stp e x hx _ (fun i _ => rfl)
          have hy32 : y < 4294967296 := by rw [hye]; exact Pl.stpN_lt e hx
          have hgo : Aside0 (Pl.stpN (e * (2 * j)) y = Pl.stpN (8 * N) a) := ⟨by rw [← HG.out, show m = 1 + 2 * j from by have := HJ.out; omega, Nat.mul_add, Nat.mul_one, Pl.stpN_add, hye]⟩
          have HC := fun w1 => crc_matrix_times.calls (fun i => Pl.stpN e (2 ^ i)) x w1 HF.out hx
          rw [← hy] at HC
          have HC' := Aside0.mk HC
          clear HC hy hye h2
          have hCl : Aside0 (C < w'.heap.size) := ⟨(matA_in hM.out).lt⟩
          go_wp2_with (first | ((with_reducible refine gate_dst (N := 48) rfl ?_); refine wpList_load_row rfl 61 (.tmp 8) rfl C rfl 61 _ (0, 0) _ hM.out Try.underlying61 rfl (by kernel_rfl) ?_) | (go_at_call 39; refine (HC'.out _).mono ?_; rintro e1 w1 ⟨rfl, hb1⟩; have HB1 := Aside0.mk hb1; clear hb1))
          go_meet
          case rel => exact ⟨y, rfl, hy32, hgo, ⟨(HB1.out.block C hCl.out).trans hM.out⟩, ⟨below_then hBel.out hBel.out.size HB1.out⟩⟩
      case rest =>
        obtain ⟨y, rfl, hy, hyg, hM1, hBel1⟩ := hcut
        clear hM hBel HG hx
        obtain ⟨D, hD⟩ : ∃ D, D = wc.heap.size := ⟨_, rfl⟩
        have HD := Aside0.mk hD
        clear hD
        have hCl : Aside0 (C < wc.heap.size) := ⟨(matA_in hM1.out).lt⟩
        have hm2 : (m : Int) / 2 = (j : Int) := by have := HJ.out; omega
        go_wp2_with (first | ((with_reducible refine gate_dst (N := 51) rfl ?_); refine wpList_load_row rfl 61 (.tmp 8) rfl C rfl 61 _ (0, 0) _ ((heap_alloc_old _ _ hCl.out).trans hM1.out) Try.underlying61 rfl (by kernel_rfl) ?_))
        rw [← HD.out]
        go_loopw [12, 13, 52] (fun _ _ i wr => ∃ (k : Nat), k ≤ 32 ∧ i = .int .i64 k ∧ Aside0 (wr.heap[D]? = some (.cells (matA (fun i => if i < k then Pl.stpN (e + e) (2 ^ i) else 0)) 61 (0, 0))) ∧ Aside0 (wr.heap[C]? = some (.cells (matA (fun i => Pl.stpN e (2 ^ i))) 61 (0, 0))) ∧ Aside0 (Below w.heap.size w wr)) (fun _ _ i _ => 32 - (intOf i).toNat)
        case atStart =>
          refine ⟨0, by decide, rfl, ⟨?_⟩, ⟨(heap_alloc_old _ _ hCl.out).trans hM1.out⟩, ⟨hBel1.out.alloc hBel1.out.size _⟩⟩
          have e0 : matA (fun i => if i < 0 then Pl.stpN (e + e) (2 ^ i) else 0) = #[.int .u32 0, .int .u32 0, .int .u32 0, .int .u32 0, .int .u32 0, .int .u32 0, .int .u32 0, .int .u32 0, .int .u32 0, .int .u32 0, .int .u32 0, .int .u32 0, .int .u32 0, .int .u32 0, .int .u32 0, .int .u32 0, .int .u32 0, .int .u32 0, .int .u32 0, .int .u32 0, .int .u32 0, .int .u32 0, .int .u32 0, .int .u32 0, .int .u32 0, .int .u32 0, .int .u32 0, .int .u32 0, .int .u32 0, .int .u32 0, .int .u32 0, .int .u32 0] := rfl
          rw [e0, HD.out]
          exact heap_alloc_new _ _
        case round =>
          obtain ⟨k, hk, rfl, hE, hM2, hBel2⟩ := hrel
          obtain ⟨i0, hi, hz0, hz1, hz2⟩ := info_parts join_info
          by_cases hlt : k < 32
          · have hix := fun W => Arr.run_index_num (P := Try.prog) (k := .u32) (w := W) Try.underlying61 Try.underlying22 hi hz1 (fun i => ((Pl.stpN e (2 ^ i) : Nat) : Int)) k hlt
            obtain ⟨v, hv⟩ : ∃ v, v = Pl.stpN e (2 ^ k) := ⟨_, rfl⟩
            have hv32 : v < 4294967296 := by rw [hv]; exact HF.out k hlt
            have hix' : ∀ W, (Instr.index 61 (.agg (matA (fun i => Pl.stpN e (2 ^ i)))) (.int .i64 (k : Int))).run Try.prog W = .ok (.int .u32 (v : Int)) W := fun W => by rw [hv]; exact hix W
            obtain ⟨z, hz⟩ : ∃ z, z = Pl.colTo (fun i => Pl.stpN e (2 ^ i)) v 32 := ⟨_, rfl⟩
            have hze : z = Pl.stpN (e + e) (2 ^ k) := by rw [hz, Pl.col_stp e v hv32 _ (fun i _ => rfl), hv, Pl.stpN_add]
            have HT := fun w1 => crc_matrix_times.calls (fun i => Pl.stpN e (2 ^ i)) v w1 HF.out hv32
            rw [← hz] at HT
            have HT' := Aside0.mk HT
            have HZ := Aside0.mk hze
            clear HT hz hze hv hix hi hz0 hz1 hz2
            have hCl2 : Aside0 (C < wr.heap.size) := ⟨(matA_in hM2.out).lt⟩
            have hDl2 : Aside0 (D < wr.heap.size) := ⟨(matA_in hE.out).lt⟩
            have hCD : Aside0 (C ≠ D) := ⟨by rw [HD.out]; have := hCl.out; omega⟩
            go_wp2_with (first | ((with_reducible refine gate_dst (N := 57) rfl ?_); refine wpList_load_row rfl 61 (.tmp 8) rfl C rfl 61 _ (0, 0) _ hM2.out Try.underlying61 rfl (by kernel_rfl) ?_) | (go_at_call 39; refine (HT'.out _).mono ?_; rintro e1 w1 ⟨rfl, hb1⟩; have HB1 := Aside0.mk hb1; have tc := (matA_in ((hb1.block D hDl2.out).trans hE.out)).cell k hlt; have tf := (matA_in ((hb1.block D hDl2.out).trans hE.out)).free k; clear hb1))
            go_roundw
            case rel =>
              refine ⟨k + 1, by omega, by go_num, ⟨?_⟩, ⟨(heap_setCell_other _ _ _ _ hCD.out).trans ((HB1.out.block C hCl2.out).trans hM2.out)⟩, ⟨(below_then hBel2.out hBel2.out.size HB1.out).setCell (by rw [HD.out]; exact hBel1.out.size) _⟩⟩
              refine ((matA_in ((HB1.out.block D hDl2.out).trans hE.out)).set k hlt (z : Int)).congr fun i hi => ?_
              show (if i = k then (z : Int) else ((if i < k then Pl.stpN (e + e) (2 ^ i) else 0 : Nat) : Int)) = ((if i < k + 1 then Pl.stpN (e + e) (2 ^ i) else 0 : Nat) : Int)
              by_cases e2 : i = k
              · subst e2; rw [if_pos rfl, if_pos (by omega), HZ.out]
              · rw [if_neg e2]
                by_cases e3 : i < k
                · rw [if_pos e3, if_pos (by omega)]
                · rw [if_neg e3, if_neg (by omega)]
            case measure => simp [intOf]; omega
          · have hE' : Aside0 (wr.heap[D]? = some (.cells (matA (fun i => Pl.stpN (e + e) (2 ^ i))) 61 (0, 0))) := ⟨by
              refine (matA_in hE.out).congr fun i hi => ?_
              show ((if i < k then Pl.stpN (e + e) (2 ^ i) else 0 : Nat) : Int) = _
              rw [if_pos (by omega)]⟩
            clear hi hz0 hz1 hz2 hE
            go_wp2_with (first | ((with_reducible refine gate_dst (N := 62) rfl ?_); refine wpList_load_row rfl 61 (.tmp 11) rfl D rfl 61 _ (0, 0) _ hE'.out Try.underlying61 rfl (by kernel_rfl) ?_) | (refine Arr.wpList_store_row rfl 61 (.tmp 8) (.tmp 62) rfl rfl C rfl 61 _ _ rfl hM2.out (mat_info _) (mat_size _ _) (Arr.numA_one _ _ _) ?_))
            go_step3
            refine ⟨rfl, ⟨y, j, e + e, _, _, _, _, _, _, _, _, _, _, _, _, _, _, _, _, _, _, _, _, _, _, _, _, _, _, _, _, _, _, _, _, _, _, _, _, _, _, _, _, _, _, _, _, _, _, _, _, _, _, _, _, _, _, _, _, _, _, _, rfl, ⟨hy, by have := HJ.out; omega, ?_⟩, ⟨?_⟩, ⟨?_⟩⟩, ?_⟩
            · rw [← hyg.out]; congr 1; rw [← Nat.mul_assoc, Nat.mul_comm e 2]; congr 1; omega
            · exact setRow_heap _ _ _ _ _ _ hM2.out
            · exact below_setRow hBel2.out (by rw [HCN.out]; omega) _
            · simp [intOf]; omega
def crc_Join.f (a0 : Int) (a1 : Int) (a2 : Int) : Option Int := if 0 ≤ a0 ∧ a0 < 4294967296 ∧ 0 ≤ a1 ∧ a1 < 4294967296 then some ((Pl.join a0.toNat a1.toNat a2 : Nat) : Int) else none
theorem crc_Join.calls (a0 : Int) (a1 : Int) (a2 : Int) (r : Int) (w : World) (h : crc_Join.f a0 a1 a2 = some r) :
    Calls Try.prog 22 #[.int .u32 a0, .int .u32 a1, .int .i64 a2] w fun e w' => e = .returned (.int .u32 r) ∧ Below w.heap.size w w' := by
  unfold crc_Join.f at h
  split at h
  case isFalse => cases h
  rename_i hh
  obtain ⟨h0, h1, h2, h3⟩ := hh
  obtain rfl := Option.some.inj h
  obtain ⟨a, rfl⟩ := Int.eq_ofNat_of_zero_le h0
  obtain ⟨b, rfl⟩ := Int.eq_ofNat_of_zero_le h2
  exact crc_Join.core a b a2 w (by omega) (by omega)
theorem crc_Join.tells (a b : Nat) (n : Int) (ha : a < 4294967296) (hb : b < 4294967296) : crc_Join.f (a : Int) (b : Int) n = some ((Pl.join a b n : Nat) : Int) := by
  unfold crc_Join.f
  rw [if_pos ⟨by omega, by omega, by omega, by omega⟩, Int.toNat_natCast, Int.toNat_natCast]

end Go.Proofs.Ytiaoehjldbnpkaa.PA
