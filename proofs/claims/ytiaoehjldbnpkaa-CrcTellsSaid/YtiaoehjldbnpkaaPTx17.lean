/- Functions of the program as Lean functions, and that the Go code comes to just their answers: no condition but that the function says so. (Written by a program of this workplace over the kit's print, with contracts by hand.) -/
import Derived.Test.YtiaoehjldbnpkaaProg
import Derived.Below
import Derived.Deep.Draws
import Derived.Deep.AppendLies
import Derived.Maps.AppendAt
import Derived.OwnWalk
import Derived.Laws.BytesArg
import Derived.Laws.MakeOwn
import Derived.Laws.OwnMore
import Derived.Deep.OwnRows
import Derived.Tactics
import Derived.Lib.ConvBytes
import Derived.Laws.Slices
import Derived.WalkKit
import Derived.KernelRfl
import Derived.RowKit3
import Derived.Deep.LoopGhost
import Derived.Deep.QuietTactic
import Derived.BigQuiet
import Derived.WideLaws
import Derived.Deep.DeepCutAuto
import Derived.Deep.CutBlock
import Derived.Deep.RegionHeld3
import Derived.Laws.Rows
import Derived.Lib.AppendStr
import Derived.ArgAppend
import Derived.Laws.IdiomCopy
import Derived.OrdersHeld
import Derived.Laws.BitsLemmas
import Derived.RowKit
import Derived.Lib.SliceRun
import Derived.Test.YtiaoehjldbnpkaaStr
import Derived.Test.YtiaoehjldbnpkaaCrc
import Derived.Test.YtiaoehjldbnpkaaArr
import Derived.WalkMore
import Derived.Test.YtiaoehjldbnpkaaKd
import Derived.Deep.DeepMust
import Derived.Test.YtiaoehjldbnpkaaLe
import Derived.Test.YtiaoehjldbnpkaaCrcLaw
import Derived.Test.YtiaoehjldbnpkaaLast
import Derived.Lib.SlBytesConst
import Derived.Test.YtiaoehjldbnpkaaWWords
import Derived.Test.YtiaoehjldbnpkaaWLast
import Derived.Test.YtiaoehjldbnpkaaWTab
import Derived.Test.YtiaoehjldbnpkaaWFour
import Derived.Test.YtiaoehjldbnpkaaWQPut
import Derived.Test.YtiaoehjldbnpkaaWApart
import Derived.Test.YtiaoehjldbnpkaaWArr
import Derived.Test.YtiaoehjldbnpkaaWZeros
import Derived.Test.YtiaoehjldbnpkaaWFoot
import Derived.Test.YtiaoehjldbnpkaaWKept
import Derived.Test.YtiaoehjldbnpkaaWShare
import Derived.Test.YtiaoehjldbnpkaaWN
import Derived.Test.YtiaoehjldbnpkaaWFootNe
import Derived.Test.YtiaoehjldbnpkaaWAt
import Derived.Test.YtiaoehjldbnpkaaWEqStruct
import Derived.Test.YtiaoehjldbnpkaaWRepsOne
import Derived.Test.YtiaoehjldbnpkaaWInv
import Derived.Test.YtiaoehjldbnpkaaWInvWords
import Derived.Test.YtiaoehjldbnpkaaWGuard
import Derived.Test.YtiaoehjldbnpkaaWNEv
import Derived.Test.YtiaoehjldbnpkaaWMore
namespace Go.Proofs.Ytiaoehjldbnpkaa.PT
open Go.RowKit Go.Proofs.YtiaoehjldbnpkaaW.PrintWords Go.Proofs.YtiaoehjldbnpkaaW.PrintLast Go.Proofs.YtiaoehjldbnpkaaW.PrintMore
attribute [local go_sem] max2_int min2_int max_two min_two max_three min_three max_four min_four   -- for this text's walks alone
set_option linter.unusedVariables false
set_option linter.unusedSimpArgs false



def errW : Option Int → Value
  | none => .nilIface
  | some c => .iface 0 (.int .i64 c)
theorem errW_none : errW none = .nilIface := rfl
theorem errW_some (c : Int) : errW (some c) = .iface 0 (.int .i64 c) := rfl

theorem info5 : (Try.prog.info? 5).map (fun i => (i.zero, i.size, i.bytes)) = some (some (.int .u8 0), 1, 1) := by kernel_rfl
-- the values' own types
def rd_L2 (xs : List (List Int)) (i : Int) : (List Int) := xs.getD i.toNat ([] : List Int)
theorem at_L2 {w : World} {A : Option Addr} {n : Nat} {xs : List (List Int)} (h : Kd.C (Kd.slice 5 (Kd.int .u8)) w A n xs) (i : Int) (h0 : 0 ≤ i) (h1 : i < n) : ∃ ad A0 c0, A = some ad ∧ w.cell? (ad.add i.toNat) = some (.slice A0 (rd_L2 xs i).length c0) ∧ (rd_L2 xs i).length ≤ c0 ∧ (Kd.int .u8).C w A0 (rd_L2 xs i).length (rd_L2 xs i) := by
  obtain ⟨ad, c, e, _, hK, hc0⟩ := Kd.C_get h ([] : List Int) i h0 h1
  have hc : ∀ j u, c[j]? = some u → w.cell? (ad.add (i.toNat * 1 + j)) = some u := hc0
  obtain ⟨A0, c0, rfl, l0, g0⟩ := hK
  exact ⟨ad, A0, c0, e, by have hq := hc 0 _ rfl; rwa [Nat.mul_one, Nat.add_zero] at hq, l0, g0⟩

end Go.Proofs.Ytiaoehjldbnpkaa.PT

namespace Go.Proofs.Ytiaoehjldbnpkaa.PT
open Go.RowKit Go.Proofs.YtiaoehjldbnpkaaW.PrintWords Go.Proofs.YtiaoehjldbnpkaaW.PrintLast Go.Proofs.YtiaoehjldbnpkaaW.PrintMore
attribute [local go_sem] max2_int min2_int max_two min_two max_three min_three max_four min_four   -- for this text's walks alone
set_option linter.unusedVariables false
set_option linter.unusedSimpArgs false

/-! ### crc_halves: function 37 -/
def halvesA : Array Value := Arr.numA .u32 16 (fun i => (Pl.stpN 4 i : Nat))
set_option maxHeartbeats 1000000 in
theorem crc_halves.calls (w : World) : Calls Try.prog 37 #[] w fun e w' => e = .returned (.agg halvesA) ∧ w' = w.alloc (.cells halvesA 57) := by
  have e : halvesA = #[.int .u32 0, .int .u32 274646895, .int .u32 549293790, .int .u32 820201905, .int .u32 1098587580, .int .u32 1361435347, .int .u32 1640403810, .int .u32 1905808397, .int .u32 2197175160, .int .u32 2460548119, .int .u32 2722870694, .int .u32 2987750089, .int .u32 3280807620, .int .u32 3553878443, .int .u32 3811616794, .int .u32 4084100981] := by
    kernel_rfl
  rw [e]
  clear e
  go_enter Try.func37, Try.ntmps37
  go_wp2
  refine bodyPost_ret (results_single rfl (.cell _ 57 _ (0, 0) _ rfl (heap_alloc_new w _) Try.underlying57 rfl (by kernel_rfl) .nil)) rfl ?_
  exact ⟨rfl, rfl⟩
theorem halves_in (w : World) (g : Nat) (h : w.heap[g]? = some (.cells halvesA 57 (0, 0))) : Arr.IsA w g 57 .u32 16 (fun i => (Pl.stpN 4 i : Nat)) := h

end Go.Proofs.Ytiaoehjldbnpkaa.PT

namespace Go.Proofs.Ytiaoehjldbnpkaa.PT
open Go.RowKit Go.Proofs.YtiaoehjldbnpkaaW.PrintWords Go.Proofs.YtiaoehjldbnpkaaW.PrintLast Go.Proofs.YtiaoehjldbnpkaaW.PrintMore
attribute [local go_sem] max2_int min2_int max_two min_two max_three min_three max_four min_four   -- for this text's walks alone
set_option linter.unusedVariables false
set_option linter.unusedSimpArgs false

/-! ### crc_More: function 19 -/
def crc_More.f (a0 : Int) (l1 : List Int) : Option Int := if 0 ≤ a0 ∧ a0 < 4294967296 ∧ Pl.byteB l1 = true then some ((Pl.more a0.toNat (Pl.nats l1) : Nat) : Int) else none
set_option maxHeartbeats 2000000 in
theorem crc_More.calls (a0 : Int) (A1 : Option Addr) (c1 : Nat) (l1 : List Int) (r : Int) (w : World) (hr1 : Kd.C (Kd.int .u8) w A1 l1.length l1) (hc1 : l1.length ≤ c1) (h : crc_More.f a0 l1 = some r) :
    Calls Try.prog 19 #[.int .u32 a0, .slice A1 l1.length c1] w fun e w' => e = .returned (.int .u32 r) ∧ Below w.heap.size w w' := by
  unfold crc_More.f at h
  split at h
  case isFalse => cases h
  rename_i hh
  obtain ⟨h0, h1, hb⟩ := hh
  obtain ⟨a, rfl⟩ := Int.eq_ofNat_of_zero_le h0
  rw [Int.toNat_natCast] at h
  have ha : a < 4294967296 := by omega
  obtain rfl := Option.some.inj h
  have HR1 := Aside0.mk hr1
  have hlen : l1.length ≤ 9223372036854775807 := hr1.2.1
  have HBY := Aside0.mk hb
  clear h0 h1 hb h hr1 hc1
  have e0 : bits .xor .u32 (a : Int) 4294967295 = ((Pl.inv a : Nat) : Int) := Arr.x32 ha (by decide)
  obtain ⟨B, hB⟩ : ∃ B, B = w.heap.size + 1 := ⟨_, rfl⟩
  have HBN := Aside0.mk hB
  clear hB
  go_enter Try.func19, Try.ntmps19
  go_wp2_with (first | (go_at_call 37; refine (crc_halves.calls _).mono ?_; rintro e w' ⟨rfl, rfl⟩) | ((with_reducible refine Arr.wpList_store_row rfl 57 (.tmp 5) (.tmp 8) rfl rfl (w.heap.size + 1) rfl 57 _ halvesA rfl (heap_alloc2_new w _ _) (by kernel_rfl) rfl (by kernel_rfl) ?_)))
  rw [← HBN.out]
  go_loopw [0, 13] (fun s i wr => ∃ (n : Nat) (k : Nat), k ≤ l1.length ∧ i = .int .i64 k ∧ s = .int .u32 (n : Int) ∧ n < 4294967296 ∧ Aside0 (n = Pl.raw (Pl.inv a) ((Pl.nats l1).take k)) ∧ Aside0 (wr.heap[B]? = some (.cells halvesA 57 (0, 0))) ∧ Aside0 (Below w.heap.size w wr)) (fun _ i _ => l1.length - (intOf i).toNat)
  case atStart =>
    refine ⟨Pl.inv a, 0, Nat.zero_le _, rfl, rfl, Pl.inv_lt ha, ⟨by rw [List.take_zero, Pl.raw_nil]⟩, ⟨?_⟩, ⟨?_⟩⟩
    · rw [HBN.out]; exact setRow_heap _ _ _ _ _ _ (heap_alloc2_new w _ _)
    · rw [HBN.out]; exact below_setRow (((Below.refl _ _).alloc (Nat.le_refl _) _).alloc (by simp) _) (by omega) _
  case round =>
    obtain ⟨n, k, hk, rfl, rfl, hn, hst, hT, hBel⟩ := hrel
    by_cases hlt : k < l1.length
    · obtain ⟨x, hx, hxr, htk⟩ := Pl.byteB_at HBY.out k hlt
      have hxr : rd l1 (k : Int) = (x : Int) := by unfold rd; rw [Int.toNat_natCast]; exact hxr
      obtain ⟨ad, hA, hcell⟩ := Kd.at_int (Kd.C_below HR1.out hBel.out) (k : Int) (by omega) (by omega)
      subst hA
      rw [hxr] at hcell
      simp only [Int.toNat_natCast] at hcell
      -- the numbers on the way
      obtain ⟨y, hy⟩ : ∃ y, y = n ^^^ x := ⟨_, rfl⟩
      have hy32 : y < 4294967296 := by rw [hy]; exact Pl.xor_lt hn (by omega)
      have q1 : bits .xor .u32 (n : Int) (x : Int) = (y : Int) := by rw [hy]; exact Arr.x32 hn (by omega)
      obtain ⟨i1, hi1⟩ : ∃ i, i = y % 16 := ⟨_, rfl⟩
      have q2 : bits .and .u32 (y : Int) 15 = (i1 : Int) := by rw [hi1]; exact (Arr.a32 hy32 (by decide)).trans (by rw [nat_mask4])
      have hi1' : i1 < 16 := by omega
      have t1 := (halves_in wr B hT.out).cell i1 hi1'
      obtain ⟨v1, hv1⟩ : ∃ v, v = Pl.stpN 4 i1 := ⟨_, rfl⟩
      have hv1' : v1 < 4294967296 := by rw [hv1]; exact Pl.stpN_lt 4 (by omega)
      rw [← hv1] at t1
      obtain ⟨z, hz⟩ : ∃ z, z = Pl.half y := ⟨_, rfl⟩
      have hz32 : z < 4294967296 := by rw [hz, Pl.half_eq]; exact Pl.stpN_lt 4 hy32
      have q3 : bits .xor .u32 ((y : Int) / 16) (v1 : Int) = (z : Int) := by
        rw [show (y : Int) / 16 = ((y / 16 : Nat) : Int) from by omega, Arr.x32 (by omega) hv1', hz, Pl.half, hv1, hi1]
      obtain ⟨i2, hi2⟩ : ∃ i, i = z % 16 := ⟨_, rfl⟩
      have q4 : bits .and .u32 (z : Int) 15 = (i2 : Int) := by rw [hi2]; exact (Arr.a32 hz32 (by decide)).trans (by rw [nat_mask4])
      have hi2' : i2 < 16 := by omega
      have t2 := (halves_in wr B hT.out).cell i2 hi2'
      obtain ⟨v2, hv2⟩ : ∃ v, v = Pl.stpN 4 i2 := ⟨_, rfl⟩
      have hv2' : v2 < 4294967296 := by rw [hv2]; exact Pl.stpN_lt 4 (by omega)
      rw [← hv2] at t2
      obtain ⟨u, hu⟩ : ∃ u, u = Pl.half z := ⟨_, rfl⟩
      have q5 : bits .xor .u32 ((z : Int) / 16) (v2 : Int) = (u : Int) := by
        rw [show (z : Int) / 16 = ((z / 16 : Nat) : Int) from by omega, Arr.x32 (by omega) hv2', hu, Pl.half, hv2, hi2]
      have hu32 : u < 4294967296 := by rw [hu, Pl.half_eq]; exact Pl.stpN_lt 4 hz32
      have hfin : Aside0 (u = Pl.raw (Pl.inv a) ((Pl.nats l1).take (k + 1))) := ⟨by rw [htk, Pl.raw_snoc, ← hst.out, hu, hz, hy, Pl.half_half]⟩
      clear hy hi1 hv1 hz hi2 hv2 hu htk hxr hst e0
      go_wp2
      go_roundw
      case rel => exact ⟨u, k + 1, by omega, by go_num, rfl, hu32, hfin, hT, hBel⟩
      case measure => simp [intOf]; omega
    · have hke : Aside0 (k = l1.length) := ⟨by omega⟩
      have e1 : bits .xor .u32 (n : Int) 4294967295 = ((Pl.inv n : Nat) : Int) := Arr.x32 hn (by decide)
      clear e0
      go_wp2
      go_ret
      refine ⟨?_, hBel.out⟩
      rw [hst.out, hke.out, List.take_of_length_le (by simp [Pl.nats])]
      rfl
theorem crc_More.tells (s : Nat) (l : List Int) (hs : s < 4294967296) (h : Pl.byteB l = true) : crc_More.f (s : Int) l = some ((Pl.more s (Pl.nats l) : Nat) : Int) := by
  unfold crc_More.f
  rw [if_pos ⟨by omega, by omega, h⟩, Int.toNat_natCast]

end Go.Proofs.Ytiaoehjldbnpkaa.PT

namespace Go.Proofs.Ytiaoehjldbnpkaa.PT
open Go.RowKit Go.Proofs.YtiaoehjldbnpkaaW.PrintWords Go.Proofs.YtiaoehjldbnpkaaW.PrintLast Go.Proofs.YtiaoehjldbnpkaaW.PrintMore
attribute [local go_sem] max2_int min2_int max_two min_two max_three min_three max_four min_four   -- for this text's walks alone
set_option linter.unusedVariables false
set_option linter.unusedSimpArgs false

/-! ### crc_Sum_p: function 21 -/
def crc_Sum_p.f (l0 : List Int) : Option (Int) := (crc_More.f 0 l0).bind fun t101 => (some t101)
set_option maxHeartbeats 8000000 in
set_option maxRecDepth 100000 in
theorem crc_Sum_p.calls (A0 : Option Addr) (c0 : Nat) (l0 : List Int) (r : Int) (w : World) (hr0 : Kd.C (Kd.int .u8) w A0 l0.length l0) (hc0 : l0.length ≤ c0) (h : crc_Sum_p.f l0 = some r) :
    Calls Try.prog 21 #[.slice A0 l0.length c0] w fun e w' => e = .returned (.int .u32 r) ∧ Below w.heap.size w w' := by
  have HR0 := Aside0.mk hr0
  have HC0 := Aside0.mk hc0
  clear hr0 hc0
  have HB := Aside0.mk (Below.refl w.heap.size w)
  have H : ((crc_More.f 0 l0).bind fun t101 => (some t101)) = some r := h
  clear h
  replace H := Option.bind_eq_some_iff.mp H
  obtain ⟨t101, A20, H⟩ := H
  replace H : (some t101) = some r := H
  have A2 := Aside0.mk A20
  clear A20
  obtain rfl := Option.some.inj H
  go_enter Try.func21, Try.ntmps21
  go_wp2_with (first | ((with_reducible refine gate_callee (f := 19) rfl ?_); refine goesL_ (some 4) rfl rfl Try.func19 (by kernel_rfl) rfl #[.int .u32 0, .slice A0 l0.length c0] rfl (by (try simp only [List.map_toArray, List.map_cons, List.map_nil]); first | done | rfl | (simp only [List.length_drop, List.length_take]; rfl)) ?_; (with_reducible refine (crc_More.calls 0 _ _ l0 t101 _ ?side1 ?side2 A2.out).mono ?_); (case side1 => repeat (first | exact HR0.out | (with_reducible refine Kd.C_alloc ?_ _) | (with_reducible refine Kd.C_drewN ?_ _) | (with_reducible refine Kd.C_drew ?_))); (case side2 => exact HC0.out); rintro e w3 ⟨rfl, hb⟩; refine ⟨_, rfl, ?_⟩; have n0_ := Aside0.mk (below_step (by repeat (first | (with_reducible first | exact HB.out | apply below_alloc | apply pw_below_drewN | apply below_drew1) | exact HB.out)) hb); clear HB; have HB := n0_; clear n0_; (try clear hb); (try clear hb2); (try clear hk); (try clear hi)))
  go_ret
  exact ⟨by first | rfl | (simp [errW_none, errW_some] <;> rfl) | (simp [*, errW_none, errW_some] <;> rfl), by repeat (first | (with_reducible first | exact HB.out | apply below_alloc | apply pw_below_drewN | apply below_drew1) | exact HB.out)⟩

end Go.Proofs.Ytiaoehjldbnpkaa.PT

namespace Go.Proofs.Ytiaoehjldbnpkaa.PT
open Go.RowKit Go.Proofs.YtiaoehjldbnpkaaW.PrintWords Go.Proofs.YtiaoehjldbnpkaaW.PrintLast Go.Proofs.YtiaoehjldbnpkaaW.PrintMore
attribute [local go_sem] max2_int min2_int max_two min_two max_three min_three max_four min_four   -- for this text's walks alone
set_option linter.unusedVariables false
set_option linter.unusedSimpArgs false

/-! ### crc_Sum: function 21 -/
def crc_Sum.f (l0 : List Int) : Option Int := crc_More.f 0 l0
theorem crc_Sum.calls (A0 : Option Addr) (c0 : Nat) (l0 : List Int) (r : Int) (w : World) (hr0 : Kd.C (Kd.int .u8) w A0 l0.length l0) (hc0 : l0.length ≤ c0) (h : crc_Sum.f l0 = some r) :
    Calls Try.prog 21 #[.slice A0 l0.length c0] w fun e w' => e = .returned (.int .u32 r) ∧ Below w.heap.size w w' := by
  refine crc_Sum_p.calls A0 c0 l0 r w hr0 hc0 ?_
  unfold crc_Sum.f at h
  unfold crc_Sum_p.f
  rw [h, Option.bind_some]
theorem crc_Sum.tells (l : List Int) (h : Pl.byteB l = true) : crc_Sum.f l = some ((Pl.sum (Pl.nats l) : Nat) : Int) := by
  unfold crc_Sum.f
  rw [show (0 : Int) = ((0 : Nat) : Int) from rfl, crc_More.tells 0 l (by decide) h]
  rfl

end Go.Proofs.Ytiaoehjldbnpkaa.PT

namespace Go.Proofs.Ytiaoehjldbnpkaa.PT
open Go.RowKit Go.Proofs.YtiaoehjldbnpkaaW.PrintWords Go.Proofs.YtiaoehjldbnpkaaW.PrintLast Go.Proofs.YtiaoehjldbnpkaaW.PrintMore
attribute [local go_sem] max2_int min2_int max_two min_two max_three min_three max_four min_four   -- for this text's walks alone
set_option linter.unusedVariables false
set_option linter.unusedSimpArgs false

/-! ### le_may: function 41 -/
def le_may.f (a0 : Int) (a1 : Int) : Option (Bool) := if a1 = 1 then (if 0 ≤ (wrap64 (8 * a1)) then (some ((shr .u64 a0 (wrap64 (8 * a1))) == 0)) else (none)) else (if a1 = 2 then (if 0 ≤ (wrap64 (8 * a1)) then (some ((shr .u64 a0 (wrap64 (8 * a1))) == 0)) else (none)) else (if a1 = 4 then (if 0 ≤ (wrap64 (8 * a1)) then (some ((shr .u64 a0 (wrap64 (8 * a1))) == 0)) else (none)) else (some (a1 == 8))))
set_option maxHeartbeats 8000000 in
set_option maxRecDepth 100000 in
theorem le_may.calls (a0 : Int) (a1 : Int) (r : Bool) (w : World) (h : le_may.f a0 a1 = some r) :
    Calls Try.prog 41 #[.int .u64 a0, .int .i64 a1] w fun e w' => e = .returned (.bool r) ∧ Drawn0 w w' := by
  have H : (if a1 = 1 then (if 0 ≤ (wrap64 (8 * a1)) then (some ((shr .u64 a0 (wrap64 (8 * a1))) == 0)) else (none)) else (if a1 = 2 then (if 0 ≤ (wrap64 (8 * a1)) then (some ((shr .u64 a0 (wrap64 (8 * a1))) == 0)) else (none)) else (if a1 = 4 then (if 0 ≤ (wrap64 (8 * a1)) then (some ((shr .u64 a0 (wrap64 (8 * a1))) == 0)) else (none)) else (some (a1 == 8))))) = some r := h
  clear h
  by_cases c3 : a1 = 1
  · rw [if_pos c3] at H
    have c3b0 : (a1 == 1) = true := beq_iff_eq.mpr c3
    have c3b1 : (a1 != 1) = false := bne_eq_false_iff_eq.mpr c3
    clear c3
    obtain ⟨ji4, hji4⟩ : ∃ j_ : Int, (wrap64 (8 * a1)) = j_ := ⟨_, rfl⟩
    replace H : (if 0 ≤ (ji4) then (some ((shr .u64 a0 (ji4)) == 0)) else (none)) = some r := by first | (rw [hji4] at H; exact H) | (simp only [hji4] at H ⊢; exact H)
    have hji4w : (IntKind.i64.wrap (8 * a1)) = ji4 := (i64_w _).trans hji4
    by_cases c5 : 0 ≤ (ji4)
    · rw [if_pos c5] at H
      have c5b0 := eq_true c5
      have c5b1 : decide (0 ≤ (ji4)) = true := decide_eq_true c5
      clear c5
      obtain ⟨ji6, hji6⟩ : ∃ j_ : Int, (shr .u64 a0 (ji4)) = j_ := ⟨_, rfl⟩
      replace H : (some ((ji6) == 0)) = some r := by first | (rw [hji6] at H; exact H) | (simp only [hji6] at H ⊢; exact H)
      have hji6_ : (a0 / 2 ^ min (ji4).toNat 64) = ji6 := hji6
      have hji6z : (ji4) ≤ 64 → (a0 / 2 ^ (ji4).toNat) = ji6 := shr_small hji6
      obtain rfl := Option.some.inj H
      go_enter Try.func41, Try.ntmps41
      go_wp2
      go_ret
      exact ⟨by first | rfl | (simp; done) | (simp only [← hji4, ← hji6] <;> (first | rfl | simp)) | (simp [*]; done), by repeat (first | exact Drawn0.refl _ | apply Drawn0.step)⟩
    · rw [if_neg c5] at H
      exact absurd H (by simp)
  · rw [if_neg c3] at H
    have c3b0 : (a1 == 1) = false := beq_eq_false_iff_ne.mpr c3
    have c3b1 : (a1 != 1) = true := bne_iff_ne.mpr c3
    by_cases c7 : a1 = 2
    · rw [if_pos c7] at H
      have c7b0 : (a1 == 2) = true := beq_iff_eq.mpr c7
      have c7b1 : (a1 != 2) = false := bne_eq_false_iff_eq.mpr c7
      clear c7
      obtain ⟨ji8, hji8⟩ : ∃ j_ : Int, (wrap64 (8 * a1)) = j_ := ⟨_, rfl⟩
      replace H : (if 0 ≤ (ji8) then (some ((shr .u64 a0 (ji8)) == 0)) else (none)) = some r := by first | (rw [hji8] at H; exact H) | (simp only [hji8] at H ⊢; exact H)
      have hji8w : (IntKind.i64.wrap (8 * a1)) = ji8 := (i64_w _).trans hji8
      by_cases c9 : 0 ≤ (ji8)
      · rw [if_pos c9] at H
        have c9b0 := eq_true c9
        have c9b1 : decide (0 ≤ (ji8)) = true := decide_eq_true c9
        clear c9
        obtain ⟨ji10, hji10⟩ : ∃ j_ : Int, (shr .u64 a0 (ji8)) = j_ := ⟨_, rfl⟩
        replace H : (some ((ji10) == 0)) = some r := by first | (rw [hji10] at H; exact H) | (simp only [hji10] at H ⊢; exact H)
        have hji10_ : (a0 / 2 ^ min (ji8).toNat 64) = ji10 := hji10
        have hji10z : (ji8) ≤ 64 → (a0 / 2 ^ (ji8).toNat) = ji10 := shr_small hji10
        obtain rfl := Option.some.inj H
        go_enter Try.func41, Try.ntmps41
        go_wp2
        go_ret
        exact ⟨by first | rfl | (simp; done) | (simp only [← hji8, ← hji10] <;> (first | rfl | simp)) | (simp [*]; done), by repeat (first | exact Drawn0.refl _ | apply Drawn0.step)⟩
      · rw [if_neg c9] at H
        exact absurd H (by simp)
    · rw [if_neg c7] at H
      have c7b0 : (a1 == 2) = false := beq_eq_false_iff_ne.mpr c7
      have c7b1 : (a1 != 2) = true := bne_iff_ne.mpr c7
      by_cases c11 : a1 = 4
      · rw [if_pos c11] at H
        have c11b0 : (a1 == 4) = true := beq_iff_eq.mpr c11
        have c11b1 : (a1 != 4) = false := bne_eq_false_iff_eq.mpr c11
        clear c11
        obtain ⟨ji12, hji12⟩ : ∃ j_ : Int, (wrap64 (8 * a1)) = j_ := ⟨_, rfl⟩
        replace H : (if 0 ≤ (ji12) then (some ((shr .u64 a0 (ji12)) == 0)) else (none)) = some r := by first | (rw [hji12] at H; exact H) | (simp only [hji12] at H ⊢; exact H)
        have hji12w : (IntKind.i64.wrap (8 * a1)) = ji12 := (i64_w _).trans hji12
        by_cases c13 : 0 ≤ (ji12)
        · rw [if_pos c13] at H
          have c13b0 := eq_true c13
          have c13b1 : decide (0 ≤ (ji12)) = true := decide_eq_true c13
          clear c13
          obtain ⟨ji14, hji14⟩ : ∃ j_ : Int, (shr .u64 a0 (ji12)) = j_ := ⟨_, rfl⟩
          replace H : (some ((ji14) == 0)) = some r := by first | (rw [hji14] at H; exact H) | (simp only [hji14] at H ⊢; exact H)
          have hji14_ : (a0 / 2 ^ min (ji12).toNat 64) = ji14 := hji14
          have hji14z : (ji12) ≤ 64 → (a0 / 2 ^ (ji12).toNat) = ji14 := shr_small hji14
          obtain rfl := Option.some.inj H
          go_enter Try.func41, Try.ntmps41
          go_wp2
          go_ret
          exact ⟨by first | rfl | (simp; done) | (simp only [← hji12, ← hji14] <;> (first | rfl | simp)) | (simp [*]; done), by repeat (first | exact Drawn0.refl _ | apply Drawn0.step)⟩
        · rw [if_neg c13] at H
          exact absurd H (by simp)
      · rw [if_neg c11] at H
        have c11b0 : (a1 == 4) = false := beq_eq_false_iff_ne.mpr c11
        have c11b1 : (a1 != 4) = true := bne_iff_ne.mpr c11
        obtain rfl := Option.some.inj H
        go_enter Try.func41, Try.ntmps41
        go_wp2
        go_ret
        exact ⟨by first | rfl | (simp; done) | (simp [*]; done), by repeat (first | exact Drawn0.refl _ | apply Drawn0.step)⟩

end Go.Proofs.Ytiaoehjldbnpkaa.PT

namespace Go.Proofs.Ytiaoehjldbnpkaa.PT
open Go.RowKit Go.Proofs.YtiaoehjldbnpkaaW.PrintWords Go.Proofs.YtiaoehjldbnpkaaW.PrintLast Go.Proofs.YtiaoehjldbnpkaaW.PrintMore
attribute [local go_sem] max2_int min2_int max_two min_two max_three min_three max_four min_four   -- for this text's walks alone
set_option linter.unusedVariables false
set_option linter.unusedSimpArgs false

/-! ### bytes_Clone: function 42 -/
def bytes_Clone.f (l0 : List Int) : Option (List Int) := if l0.length < 140737488355328 then some l0 else none
set_option maxHeartbeats 1000000 in
theorem bytes_Clone.calls (A0 : Option Addr) (c0 : Nat) (l0 : List Int) (r : List Int) (w : World) (hr0 : Kd.C (Kd.int .u8) w A0 l0.length l0) (hc0 : l0.length ≤ c0) (h : bytes_Clone.f l0 = some r) :
    Calls Try.prog 42 #[.slice A0 l0.length c0] w fun e w' => ∃ v0_ : Value, e = .returned (v0_) ∧ Kd.R (Kd.int .u8) 5 w' w.heap.size (fun _ => True) v0_ r ∧ Below w.heap.size w w' := by
  have HR0 := Aside0.mk hr0
  clear hr0 hc0
  unfold bytes_Clone.f at h
  by_cases hl : l0.length < 140737488355328
  · rw [if_pos hl] at h
    obtain rfl := Option.some.inj h
    have HL := Aside0.mk hl
    clear h hl
    have HB := Aside0.mk (Below.refl w.heap.size w)
    cases A0 with
    | none =>
      obtain rfl : l0 = [] := by
        cases l0 with
        | nil => rfl
        | cons x xs => obtain ⟨ad, h, _⟩ := HR0.out.2.2 (by simp); cases h
      have hq := fun (w : World) => Lib.run_eql_slice_nil (P := Try.prog) w 23 5 none 0 c0 0 0 Try.underlying23
      simp only [List.length_nil]
      go_enter Try.func42, Try.ntmps42
      go_wp2
      go_ret
      exact ⟨_, rfl, Kd.R_nil _ _ _ _ _, Below.refl _ _⟩
    | some ad =>
      have hq := fun (w : World) => Lib.run_eql_slice_nil (P := Try.prog) w 23 5 (some ad) l0.length c0 0 0 Try.underlying23
      go_enter Try.func42, Try.ntmps42
      go_wp2_with (first | ((with_reducible refine gate_dst (N := 5) rfl ?_); refine Kd.R_lit (Kd.int .u8) _ 5 ?hg (N := 5) ?hd (xs := ([] : List Int)) (inner := []) (ok := fun _ => True) (okp := fun _ => True) ?hr ?hp (fun _ hk => hk) trivial (Below.refl _ _) (Nat.le_refl _) (by simp) ?_; (case hd => rfl); (case hg => rfl); (case hr => first | (go_simp; done) | (go_simp; rfl)); (case hp => exact (Reps.none _ _)); intro v110 w13 ho14 hb hg_ hnew_; clear hg_ hnew_; have n0_ := Aside0.mk (Kd.R_lower ho14 (below_size HB.out)); have n1_ := Aside0.mk (below_step HB.out hb); clear HB; have HO111 := n0_; have HB := n1_; clear n0_ n1_; clear hb ho14) | ((with_reducible refine gate_builtin (b := .append) (xs := #[.tmp 5, .tmp 6]) rfl ?_); at_builtin; refine Kd.R_append_rows (Kd.int .u8) (w0 := w) w.heap.size rfl (.tmp 5) (.tmp 6) 23 5 (.int .u8 0) 1 rfl Try.underlying23 info5 rfl (by decide) (by omega) v110 [] l0 _ _ _ (fun _ => True) (fun _ => False) rfl rfl ?aO ?aR (fun _ _ h => h) (fun _ h => h.elim) ?aF ?aB ?aS ?aL ?_; (case aR => repeat (first | exact (Kd.C_below HR0.out HB.out) | (with_reducible refine Kd.C_alloc ?_ _) | (with_reducible refine Kd.C_drewN ?_ _) | (with_reducible refine Kd.C_drew ?_))); (case aB => exact HB.out); (case aF => exact (fun _ _ => trivial)); (case aO => exact HO111.out); (case aS => exact below_size HB.out); (case aL => have := HL.out; simp; omega); intro v113 w15 ho hb hg hat; have n0_ := Aside0.mk (hb); have n1_ := Aside0.mk (ho); clear HB; clear HO111; have HB := n0_; have HO114 := n1_; clear n0_ n1_; clear ho hb hg hat))
      go_ret
      exact ⟨_, rfl, HO114.out, HB.out⟩
  · rw [if_neg hl] at h
    cases h

end Go.Proofs.Ytiaoehjldbnpkaa.PT

namespace Go.Proofs.Ytiaoehjldbnpkaa.PT
open Go.RowKit Go.Proofs.YtiaoehjldbnpkaaW.PrintWords Go.Proofs.YtiaoehjldbnpkaaW.PrintLast Go.Proofs.YtiaoehjldbnpkaaW.PrintMore
attribute [local go_sem] max2_int min2_int max_two min_two max_three min_three max_four min_four   -- for this text's walks alone
set_option linter.unusedVariables false
set_option linter.unusedSimpArgs false

/-! ### le_Put_p: function 27 -/
def le_Put_p.l0 : Nat → Int → List Int → Int → Int → Option (List Int × Int)
  | 0, _, _, _, _ => none
  | k + 1, x1, x8, x15, x16 => if x16 < x15 then (if x8.length < 140737488355328 then (le_Put_p.l0 k (x1 / 256) (x8 ++ [(x1) % 256]) x15 (wrap64 (x16 + 1))) else (none)) else (some (x8, 0))
def le_Put_p.f (k : Nat) (l0 : List Int) (a1 : Int) (a2 : Int) : Option (List Int × Int) := (le_may.f a1 a2).bind fun t102 => (if t102 = true then ((bytes_Clone.f l0).bind fun t103 => (le_Put_p.l0 k a1 t103 a2 0)) else (some (([] : List Int), 10)))
theorem le_Put_p.mono_l : ∀ k, (∀ y0 y1 y2 y3, LeO (le_Put_p.l0 k y0 y1 y2 y3) (le_Put_p.l0 (k + 1) y0 y1 y2 y3))
  | 0 => fun _ _ _ _ r h => by simp [le_Put_p.l0] at h
  | k + 1 => by
    have ih0 := le_Put_p.mono_l k
    · intro y0 y1 y2 y3
      unfold le_Put_p.l0
      repeat' first
      | (with_reducible exact ih0 _ _ _ _)
      | (with_reducible exact LeO.refl _)
      | (with_reducible exact LeO.none _)
      | (with_reducible refine LeO.ite ?_ ?_)
      | (with_reducible refine LeO.bind ?_ (fun _ => ?_))
      | exact ih0 _ _ _ _
      | exact LeO.none _
      | refine LeO.ite ?_ ?_
      | refine LeO.bind ?_ (fun _ => ?_)
theorem le_Put_p.mono : ∀ a0 a1 a2 k, LeO (le_Put_p.f k a0 a1 a2) (le_Put_p.f (k + 1) a0 a1 a2) := by
  intro a0 a1 a2 k
  have ih0 := le_Put_p.mono_l k
  unfold le_Put_p.f
  repeat' first
      | (with_reducible exact ih0 _ _ _ _)
      | (with_reducible exact LeO.refl _)
      | (with_reducible exact LeO.none _)
      | (with_reducible refine LeO.ite ?_ ?_)
      | (with_reducible refine LeO.bind ?_ (fun _ => ?_))
      | exact ih0 _ _ _ _
      | exact LeO.none _
      | refine LeO.ite ?_ ?_
      | refine LeO.bind ?_ (fun _ => ?_)
set_option maxHeartbeats 8000000 in
set_option maxRecDepth 100000 in
theorem le_Put_p.calls (k : Nat) (A0 : Option Addr) (c0 : Nat) (l0 : List Int) (a1 : Int) (a2 : Int) (r1 : List Int) (r2 : Int) (w : World) (hr0 : Kd.C (Kd.int .u8) w A0 l0.length l0) (hc0 : l0.length ≤ c0) (h : le_Put_p.f k l0 a1 a2 = some (r1, r2)) :
    Calls Try.prog 27 #[.slice A0 l0.length c0, .int .u64 a1, .int .i64 a2] w fun e w' => ∃ v0_ : Value, e = .returned (.tuple #[v0_, .int .i64 r2]) ∧ Kd.R (Kd.int .u8) 5 w' w.heap.size (fun _ => True) v0_ r1 ∧ Below w.heap.size w w' := by
  have HR0 := Aside0.mk hr0
  have HC0 := Aside0.mk hc0
  clear hr0 hc0
  have HB := Aside0.mk (Below.refl w.heap.size w)
  have H : ((le_may.f a1 a2).bind fun t102 => (if t102 = true then ((bytes_Clone.f l0).bind fun t103 => (le_Put_p.l0 k a1 t103 a2 0)) else (some (([] : List Int), 10)))) = some (r1, r2) := h
  clear h
  replace H := Option.bind_eq_some_iff.mp H
  obtain ⟨t102, A40, H⟩ := H
  replace H : (if t102 = true then ((bytes_Clone.f l0).bind fun t103 => (le_Put_p.l0 k a1 t103 a2 0)) else (some (([] : List Int), 10))) = some (r1, r2) := H
  have A4 := Aside0.mk A40
  clear A40
  by_cases c5 : t102 = true
  · subst c5
    have H1 : ((bytes_Clone.f l0).bind fun t103 => (le_Put_p.l0 k a1 t103 a2 0)) = some (r1, r2) := by rw [if_pos rfl] at H; exact H
    clear H
    have H := H1
    clear H1
    replace H := Option.bind_eq_some_iff.mp H
    obtain ⟨t103, A60, H⟩ := H
    replace H : (le_Put_p.l0 k a1 t103 a2 0) = some (r1, r2) := H
    have A6 := Aside0.mk A60
    clear A60
    have H' := Aside0.mk H
    clear H
    go_enter Try.func27, Try.ntmps27
    go_wp2_with (first | ((with_reducible refine gate_callee (f := 41) rfl ?_); refine goesL_ (some 11) rfl rfl Try.func41 (by kernel_rfl) rfl #[.int .u64 a1, .int .i64 a2] rfl (by (try simp only [List.map_toArray, List.map_cons, List.map_nil]); first | done | rfl | (simp only [List.length_drop, List.length_take]; rfl)) ?_; (with_reducible refine (le_may.calls a1 a2 true _ A4.out).mono ?_); rintro e w' ⟨rfl, ⟨nd, rfl⟩⟩; refine ⟨_, rfl, ?_⟩) | ((with_reducible refine gate_callee (f := 42) rfl ?_); refine goesL_ (some 14) rfl rfl Try.func42 (by kernel_rfl) rfl #[.slice A0 l0.length c0] rfl (by (try simp only [List.map_toArray, List.map_cons, List.map_nil]); first | done | rfl | (simp only [List.length_drop, List.length_take]; rfl)) ?_; (with_reducible refine (bytes_Clone.calls _ _ l0 t103 _ ?side1 ?side2 A6.out).mono ?_); (case side1 => repeat (first | exact HR0.out | (with_reducible refine Kd.C_alloc ?_ _) | (with_reducible refine Kd.C_drewN ?_ _) | (with_reducible refine Kd.C_drew ?_))); (case side2 => exact HC0.out); rintro e w7 ⟨v104, rfl, ho0, hb⟩; refine ⟨_, rfl, ?_⟩; have n0_ := Aside0.mk (Kd.R_lower ho0 (below_size (by repeat (first | (with_reducible first | exact HB.out | apply below_alloc | apply pw_below_drewN | apply below_drew1) | exact HB.out)))); have n1_ := Aside0.mk (below_step (by repeat (first | (with_reducible first | exact HB.out | apply below_alloc | apply pw_below_drewN | apply below_drew1) | exact HB.out)) hb); clear HB; have HO105 := n0_; have HB := n1_; clear n0_ n1_; (try clear hb); (try clear hb2); (try clear hk); (try clear hi); (try clear ho0)))
    go_loopg [1, 8, 16] k (fun kq v1 v8 v16 w' => ∃ (x1_1 : Int) (x8_1 : List Int) (x16_1 : Int), v1 = .int .u64 x1_1 ∧ v16 = .int .i64 x16_1 ∧ Aside0 (le_Put_p.l0 kq x1_1 x8_1 a2 x16_1 = some (r1, r2)) ∧ Aside0 (kq ≤ k) ∧ Aside0 (Kd.R (Kd.int .u8) 5 w' w.heap.size (fun _ => True) v8 x8_1) ∧ Aside0 (Below w.heap.size w w'))
    case atStart => exact ⟨(a1), (t103), (0), (by first | rfl | (simp; done) | (simp [*]; done)), (by first | rfl | (simp; done) | (simp [*]; done)), H', ⟨Nat.le_refl _⟩, ⟨by (with_reducible repeat (first | apply Kd.R_alloc | apply Kd.R_drewN | apply Kd.R_drew)); exact HO105.out⟩, ⟨by repeat (first | (with_reducible first | exact HB.out | apply below_alloc | apply pw_below_drewN | apply below_drew1) | exact HB.out)⟩⟩
    case round =>
      clear H'
      try clear c2
      try clear p2
      try clear c4
      try clear c5
      obtain ⟨x1_1, x8_1, x16_1, rfl, rfl, HA, HK1, HO_8, HB⟩ := hrel
      cases gk with
      | zero => exact absurd HA.out (by simp [le_Put_p.l0])
      | succ k1 =>
        have H := HA.out
        clear HA
        simp only [le_Put_p.l0] at H
        by_cases c8 : x16_1 < a2
        · rw [if_pos c8] at H
          have c8b0 : decide (x16_1 < a2) = true := decide_eq_true c8
          clear c8
          by_cases c9 : x8_1.length < 140737488355328
          · rw [if_pos c9] at H
            have LMc9 := Aside0.mk c9
            clear c9
            obtain ⟨y106, hy106⟩ : ∃ y_ : List Int, y_ = (x8_1 ++ [(x1_1) % 256]) := ⟨_, rfl⟩
            replace H : (le_Put_p.l0 k1 (x1_1 / 256) y106 a2 (wrap64 (x16_1 + 1))) = some (r1, r2) := by first | (rw [hy106]; with_reducible exact H) | (have H2_ := (Option.bind_some _ _).symm.trans H; rw [hy106]; with_reducible exact H2_) | (have H2_ := (Option.bind_some _ _).symm.trans H; with_reducible exact H2_) | with_reducible exact H | (rw [hy106]; exact H) | exact H
            have Ny106 := Aside0.mk hy106
            clear hy106
            have H' := Aside0.mk H
            clear H
            go_wp2_with (first | ((with_reducible refine gate_builtin (b := .append) (xs := #[.tmp 18, .tmp 21]) rfl ?_); at_builtin; refine Kd.R_append (Kd.int .u8) (w0 := w) w.heap.size rfl (.tmp 18) (.tmp 21) 23 5 (.int .u8 0) 1 rfl Try.underlying23 info5 rfl (by decide) (by omega) u8 x8_1 ((x1_1) % 256) [.int .u8 ((x1_1) % 256)] (fun _ => True) (fun _ => False) rfl rfl ?aP (fun _ hk => hk.elim) ?aF ?aO ?aB ?aS ?aL ?_; (case aP => exact rfl); (case aB => exact (by repeat (first | (with_reducible first | exact HB.out | apply below_alloc | apply pw_below_drewN | apply below_drew1) | exact HB.out))); (case aF => exact (fun _ _ => trivial)); (case aO => exact (by (with_reducible repeat (first | apply Kd.R_alloc | apply Kd.R_drewN | apply Kd.R_drew)); exact HO_8.out)); (case aS => exact (below_size (by repeat (first | (with_reducible first | exact HB.out | apply below_alloc | apply pw_below_drewN | apply below_drew1) | exact HB.out)))); (case aL => have := LMc9.out; omega); intro v107 w10 ho hb hg hat; rw [← Ny106.out] at ho; have n0_ := Aside0.mk (hb); have n1_ := Aside0.mk (ho); clear HB; clear HO_8; have HB := n0_; have HO108 := n1_; clear n0_ n1_; clear ho hb hg hat))
            go_roundg k1
            case measure => have := HK1.out; omega
            case rel => exact ⟨(x1_1 / 256), (y106), (wrap64 (x16_1 + 1)), (by first | rfl | (simp; done) | (simp [*]; done)), (by first | rfl | (simp; done) | (simp [*]; done)), H', ⟨by have := HK1.out; omega⟩, ⟨by (with_reducible repeat (first | apply Kd.R_alloc | apply Kd.R_drewN | apply Kd.R_drew)); exact HO108.out⟩, ⟨by repeat (first | (with_reducible first | exact HB.out | apply below_alloc | apply pw_below_drewN | apply below_drew1) | exact HB.out)⟩⟩
          · rw [if_neg c9] at H
            exact absurd H (by simp)
        · rw [if_neg c8] at H
          have c8b0 : decide (x16_1 < a2) = false := decide_eq_false c8
          clear c8
          simp only [Option.some.injEq, Prod.mk.injEq] at H
          obtain ⟨rfl, rfl⟩ := H
          go_wp2
          go_ret2
          exact ⟨_, by first | rfl | (simp [errW_none, errW_some] <;> rfl) | (simp [*, errW_none, errW_some] <;> rfl), by (with_reducible repeat (first | apply Kd.R_alloc | apply Kd.R_drewN | apply Kd.R_drew)); exact HO_8.out, by repeat (first | (with_reducible first | exact HB.out | apply below_alloc | apply pw_below_drewN | apply below_drew1) | exact HB.out)⟩
  · replace c5 := Bool.eq_false_iff.mpr c5
    subst c5
    have H1 : (some (([] : List Int), 10)) = some (r1, r2) := by rw [if_neg (show ¬ (false = true) by decide)] at H; exact H
    clear H
    have H := H1
    clear H1
    simp only [Option.some.injEq, Prod.mk.injEq] at H
    obtain ⟨rfl, rfl⟩ := H
    go_enter Try.func27, Try.ntmps27
    go_wp2_with (first | ((with_reducible refine gate_callee (f := 41) rfl ?_); refine goesL_ (some 11) rfl rfl Try.func41 (by kernel_rfl) rfl #[.int .u64 a1, .int .i64 a2] rfl (by (try simp only [List.map_toArray, List.map_cons, List.map_nil]); first | done | rfl | (simp only [List.length_drop, List.length_take]; rfl)) ?_; (with_reducible refine (le_may.calls a1 a2 false _ A4.out).mono ?_); rintro e w' ⟨rfl, ⟨nd, rfl⟩⟩; refine ⟨_, rfl, ?_⟩))
    go_ret2
    exact ⟨_, by first | rfl | (simp [errW_none, errW_some] <;> rfl) | (simp [*, errW_none, errW_some] <;> rfl), by first | exact Kd.R_nil _ _ _ _ _ | exact Kd.N_nil _ _ _ _ _ | exact Kd.V_nil _ _ _ _ _ | exact Kd.Q_nil _ _ _ _ _ | exact Kd.S_nil _ _ _ _ _, by repeat (first | (with_reducible first | exact HB.out | apply below_alloc | apply pw_below_drewN | apply below_drew1) | exact HB.out)⟩

end Go.Proofs.Ytiaoehjldbnpkaa.PT

namespace Go.Proofs.Ytiaoehjldbnpkaa.PT
open Go.RowKit Go.Proofs.YtiaoehjldbnpkaaW.PrintWords Go.Proofs.YtiaoehjldbnpkaaW.PrintLast Go.Proofs.YtiaoehjldbnpkaaW.PrintMore
attribute [local go_sem] max2_int min2_int max_two min_two max_three min_three max_four min_four   -- for this text's walks alone
set_option linter.unusedVariables false
set_option linter.unusedSimpArgs false

/-! ### le_Put: function 27 -/
def le_Put.f (l0 : List Int) (a1 : Int) (a2 : Int) : Option (List Int × Int) := if 0 ≤ a1 ∧ a1 < 18446744073709551616 ∧ l0.length < 70368744177664 then some (Pl.putS l0 a1 a2) else none
theorem le_Put.loop : ∀ (d : Nat) (k : Nat) (n : Nat) (l : List Int) (s i : Int), d < k → 0 ≤ i → i + d = s → s ≤ 8 → l.length + d < 140737488355328 → le_Put_p.l0 k (n : Int) l s i = some (l ++ Pl.leB d n, 0)
  | 0, k, n, l, s, i, hk, h0, hd, hs, hl => by
    obtain ⟨k, rfl⟩ : ∃ m, k = m + 1 := ⟨k - 1, by omega⟩
    simp only [le_Put_p.l0]
    rw [if_neg (by omega), Pl.leB, List.append_nil]
  | d + 1, k, n, l, s, i, hk, h0, hd, hs, hl => by
    obtain ⟨k, rfl⟩ : ∃ m, k = m + 1 := ⟨k - 1, by omega⟩
    simp only [le_Put_p.l0]
    rw [if_pos (by omega), if_pos (by omega), show wrap64 (i + 1) = i + 1 from by unfold wrap64; omega, show (n : Int) / 256 = ((n / 256 : Nat) : Int) from by omega,
      le_Put.loop d k (n / 256) _ s (i + 1) (by omega) (by omega) (by omega) hs (by rw [List.length_append, List.length_singleton]; omega)]
    rw [Pl.leB, List.append_assoc, List.singleton_append, show (n : Int) % 256 = ((n % 256 : Nat) : Int) from by omega]
theorem le_may.tells (n : Nat) (hn : n < 18446744073709551616) (s : Int) : le_may.f n s = some (Pl.fits n s) := by
  unfold le_may.f
  by_cases h1 : s = 1
  · subst h1
    have e : (wrap64 (8 * 1)) = 8 := by unfold wrap64; omega
    rw [if_pos rfl, e, if_pos (by decide), Pl.fits_1]
    simp only [shr, IntKind.bits, Option.some.injEq]
    rw [Bool.eq_iff_iff]
    simp
    omega
  by_cases h2 : s = 2
  · subst h2
    have e : (wrap64 (8 * 2)) = 16 := by unfold wrap64; omega
    rw [if_neg (by decide), if_pos rfl, e, if_pos (by decide), Pl.fits_2]
    simp only [shr, IntKind.bits, Option.some.injEq]
    rw [Bool.eq_iff_iff]
    simp
    omega
  by_cases h4 : s = 4
  · subst h4
    have e : (wrap64 (8 * 4)) = 32 := by unfold wrap64; omega
    rw [if_neg (by decide), if_neg (by decide), if_pos rfl, e, if_pos (by decide), Pl.fits_4]
    simp only [shr, IntKind.bits, Option.some.injEq]
    rw [Bool.eq_iff_iff]
    simp
    omega
  rw [if_neg h1, if_neg h2, if_neg h4]
  by_cases h8 : s = 8
  · subst h8
    rw [Pl.fits_8 (by omega)]
    rfl
  · rw [Pl.fits_no (by rw [← Bool.not_eq_true, Pl.okS_iff]; omega)]
    simpa using h8
theorem le_Put.tells {l0 : List Int} {a1 a2 : Int} {r : List Int × Int} (h : le_Put.f l0 a1 a2 = some r) : le_Put_p.f 10 l0 a1 a2 = some r := by
  unfold le_Put.f at h
  split at h
  case isFalse => cases h
  rename_i hh
  obtain ⟨h0, h1, h2⟩ := hh
  obtain rfl := Option.some.inj h
  obtain ⟨n, rfl⟩ := Int.eq_ofNat_of_zero_le h0
  unfold le_Put_p.f
  rw [le_may.tells n (by omega) a2, Option.bind_some]
  unfold Pl.putS
  by_cases hf : Pl.fits n a2 = true
  · have hs : a2 = 1 ∨ a2 = 2 ∨ a2 = 4 ∨ a2 = 8 := by
      unfold Pl.fits at hf
      rw [Bool.and_eq_true, Pl.okS_iff] at hf
      exact hf.1
    rw [if_pos hf, if_pos hf]
    unfold bytes_Clone.f
    rw [if_pos (by omega), Option.bind_some, Int.toNat_natCast]
    exact le_Put.loop a2.toNat 10 n l0 a2 0 (by omega) (by omega) (by omega) (by omega) (by omega)
  · rw [if_neg hf, if_neg hf]
theorem le_Put.calls (A0 : Option Addr) (c0 : Nat) (l0 : List Int) (a1 : Int) (a2 : Int) (r1 : List Int) (r2 : Int) (w : World) (hr0 : Kd.C (Kd.int .u8) w A0 l0.length l0) (hc0 : l0.length ≤ c0) (h : le_Put.f l0 a1 a2 = some (r1, r2)) :
    Calls Try.prog 27 #[.slice A0 l0.length c0, .int .u64 a1, .int .i64 a2] w fun e w' => ∃ v0_ : Value, e = .returned (.tuple #[v0_, .int .i64 r2]) ∧ Kd.R (Kd.int .u8) 5 w' w.heap.size (fun _ => True) v0_ r1 ∧ Below w.heap.size w w' :=
  le_Put_p.calls 10 A0 c0 l0 a1 a2 r1 r2 w hr0 hc0 (le_Put.tells h)

end Go.Proofs.Ytiaoehjldbnpkaa.PT

namespace Go.Proofs.Ytiaoehjldbnpkaa.PT
open Go.RowKit Go.Proofs.YtiaoehjldbnpkaaW.PrintWords Go.Proofs.YtiaoehjldbnpkaaW.PrintLast Go.Proofs.YtiaoehjldbnpkaaW.PrintMore
attribute [local go_sem] max2_int min2_int max_two min_two max_three min_three max_four min_four   -- for this text's walks alone
set_option linter.unusedVariables false
set_option linter.unusedSimpArgs false

/-! ### crc_Seal_p: function 24 -/
def crc_Seal_p.f (l0 : List Int) : Option (List Int) := (crc_Sum.f l0).bind fun t109 => ((le_Put.f l0 (IntKind.u64.wrap (t109)) 4).bind fun bt110 => (some bt110.1))
set_option maxHeartbeats 8000000 in
set_option maxRecDepth 100000 in
theorem crc_Seal_p.calls (A0 : Option Addr) (c0 : Nat) (l0 : List Int) (r : List Int) (w : World) (hr0 : Kd.C (Kd.int .u8) w A0 l0.length l0) (hc0 : l0.length ≤ c0) (h : crc_Seal_p.f l0 = some r) :
    Calls Try.prog 24 #[.slice A0 l0.length c0] w fun e w' => ∃ v0_ : Value, e = .returned (v0_) ∧ Kd.R (Kd.int .u8) 5 w' w.heap.size (fun _ => True) v0_ r ∧ Below w.heap.size w w' := by
  have HR0 := Aside0.mk hr0
  have HC0 := Aside0.mk hc0
  clear hr0 hc0
  have HB := Aside0.mk (Below.refl w.heap.size w)
  have H : ((crc_Sum.f l0).bind fun t109 => ((le_Put.f l0 (IntKind.u64.wrap (t109)) 4).bind fun bt110 => (some bt110.1))) = some r := h
  clear h
  replace H := Option.bind_eq_some_iff.mp H
  obtain ⟨t109, A20, H⟩ := H
  replace H : ((le_Put.f l0 (IntKind.u64.wrap (t109)) 4).bind fun bt110 => (some bt110.1)) = some r := H
  have A2 := Aside0.mk A20
  clear A20
  replace H := Option.bind_eq_some_iff.mp H
  obtain ⟨⟨t110, t111⟩, A30, H⟩ := H
  replace H : (some t110) = some r := H
  have A3 := Aside0.mk A30
  clear A30
  obtain rfl := Option.some.inj H
  go_enter Try.func24, Try.ntmps24
  go_wp2_with (first | ((with_reducible refine gate_callee (f := 21) rfl ?_); refine goesL_ (some 8) rfl rfl Try.func21 (by kernel_rfl) rfl #[.slice A0 l0.length c0] rfl (by (try simp only [List.map_toArray, List.map_cons, List.map_nil]); first | done | rfl | (simp only [List.length_drop, List.length_take]; rfl)) ?_; (with_reducible refine (crc_Sum.calls _ _ l0 t109 _ ?side1 ?side2 A2.out).mono ?_); (case side1 => repeat (first | exact HR0.out | (with_reducible refine Kd.C_alloc ?_ _) | (with_reducible refine Kd.C_drewN ?_ _) | (with_reducible refine Kd.C_drew ?_))); (case side2 => exact HC0.out); rintro e w4 ⟨rfl, hb⟩; refine ⟨_, rfl, ?_⟩; have n0_ := Aside0.mk (below_step (by repeat (first | (with_reducible first | exact HB.out | apply below_alloc | apply pw_below_drewN | apply below_drew1) | exact HB.out)) hb); clear HB; have HB := n0_; clear n0_; (try clear hb); (try clear hb2); (try clear hk); (try clear hi)) | ((with_reducible refine gate_callee (f := 27) rfl ?_); refine goesL_ (some 10) rfl rfl Try.func27 (by kernel_rfl) rfl #[.slice A0 l0.length c0, .int .u64 (IntKind.u64.wrap (t109)), .int .i64 4] rfl (by (try simp only [List.map_toArray, List.map_cons, List.map_nil]); first | done | rfl | (simp only [List.length_drop, List.length_take]; rfl)) ?_; (with_reducible refine (le_Put.calls _ _ l0 (IntKind.u64.wrap (t109)) 4 t110 t111 _ ?side1 ?side2 A3.out).mono ?_); (case side1 => repeat (first | exact (Kd.C_below HR0.out HB.out) | (with_reducible refine Kd.C_alloc ?_ _) | (with_reducible refine Kd.C_drewN ?_ _) | (with_reducible refine Kd.C_drew ?_))); (case side2 => exact HC0.out); rintro e w5 ⟨v112, rfl, ho0, hb⟩; refine ⟨_, rfl, ?_⟩; have n0_ := Aside0.mk (Kd.R_lower ho0 (below_size (by repeat (first | (with_reducible first | exact HB.out | apply below_alloc | apply pw_below_drewN | apply below_drew1) | exact HB.out)))); have n1_ := Aside0.mk (below_step (by repeat (first | (with_reducible first | exact HB.out | apply below_alloc | apply pw_below_drewN | apply below_drew1) | exact HB.out)) hb); clear HB; have HO113 := n0_; have HB := n1_; clear n0_ n1_; (try clear hb); (try clear hb2); (try clear hk); (try clear hi); (try clear ho0)))
  go_ret
  exact ⟨_, by first | rfl | (simp [errW_none, errW_some] <;> rfl) | (simp [*, errW_none, errW_some] <;> rfl), by (with_reducible repeat (first | apply Kd.R_alloc | apply Kd.R_drewN | apply Kd.R_drew)); exact HO113.out, by repeat (first | (with_reducible first | exact HB.out | apply below_alloc | apply pw_below_drewN | apply below_drew1) | exact HB.out)⟩

end Go.Proofs.Ytiaoehjldbnpkaa.PT

namespace Go.Proofs.Ytiaoehjldbnpkaa.PT
open Go.RowKit Go.Proofs.YtiaoehjldbnpkaaW.PrintWords Go.Proofs.YtiaoehjldbnpkaaW.PrintLast Go.Proofs.YtiaoehjldbnpkaaW.PrintMore
attribute [local go_sem] max2_int min2_int max_two min_two max_three min_three max_four min_four   -- for this text's walks alone
set_option linter.unusedVariables false
set_option linter.unusedSimpArgs false

/-! ### crc_Seal: function 24 -/
def crc_Seal.f (l0 : List Int) : Option (List Int) := if Pl.byteB l0 = true ∧ l0.length < 70368744177664 then some (Pl.seal4 l0) else none
theorem crc_Seal.calls (A0 : Option Addr) (c0 : Nat) (l0 : List Int) (r : List Int) (w : World) (hr0 : Kd.C (Kd.int .u8) w A0 l0.length l0) (hc0 : l0.length ≤ c0) (h : crc_Seal.f l0 = some r) :
    Calls Try.prog 24 #[.slice A0 l0.length c0] w fun e w' => ∃ v0_ : Value, e = .returned (v0_) ∧ Kd.R (Kd.int .u8) 5 w' w.heap.size (fun _ => True) v0_ r ∧ Below w.heap.size w w' := by
  refine crc_Seal_p.calls A0 c0 l0 r w hr0 hc0 ?_
  unfold crc_Seal.f at h
  split at h
  case isFalse => cases h
  rename_i hh
  obtain rfl := Option.some.inj h
  have hlt := Pl.sum_lt (Pl.byteB_bytes hh.1)
  unfold crc_Seal_p.f crc_Sum.f crc_More.f
  rw [if_pos ⟨by decide, by decide, hh.1⟩, Option.bind_some]
  have e1 : ((Pl.more (0 : Int).toNat (Pl.nats l0) : Nat) : Int) = ((Pl.sum (Pl.nats l0) : Nat) : Int) := rfl
  rw [e1, IntKind.wrap_u64, show ((Pl.sum (Pl.nats l0) : Nat) : Int) % 18446744073709551616 = ((Pl.sum (Pl.nats l0) : Nat) : Int) from by omega]
  unfold le_Put.f
  rw [if_pos ⟨by omega, by omega, hh.2⟩, Option.bind_some]
  unfold Pl.putS
  rw [if_pos (by rw [Pl.fits_4]; exact decide_eq_true (by omega)), Int.toNat_natCast]
  rfl

end Go.Proofs.Ytiaoehjldbnpkaa.PT

namespace Go.Proofs.Ytiaoehjldbnpkaa.PT
open Go.RowKit Go.Proofs.YtiaoehjldbnpkaaW.PrintWords Go.Proofs.YtiaoehjldbnpkaaW.PrintLast Go.Proofs.YtiaoehjldbnpkaaW.PrintMore
attribute [local go_sem] max2_int min2_int max_two min_two max_three min_three max_four min_four   -- for this text's walks alone
set_option linter.unusedVariables false
set_option linter.unusedSimpArgs false

/-! ### bytes_Equal_p: function 36 -/
def bytes_Equal_p.f (l0 : List Int) (l1 : List Int) : Option (Bool) := some ((strOfNums l0).toList == (strOfNums l1).toList)
set_option maxHeartbeats 8000000 in
set_option maxRecDepth 100000 in
theorem bytes_Equal_p.calls (A0 : Option Addr) (c0 : Nat) (l0 : List Int) (A1 : Option Addr) (c1 : Nat) (l1 : List Int) (r : Bool) (w : World) (hr0 : Kd.C (Kd.int .u8) w A0 l0.length l0) (hc0 : l0.length ≤ c0) (hr1 : Kd.C (Kd.int .u8) w A1 l1.length l1) (hc1 : l1.length ≤ c1) (h : bytes_Equal_p.f l0 l1 = some r) :
    Calls Try.prog 36 #[.slice A0 l0.length c0, .slice A1 l1.length c1] w fun e w' => e = .returned (.bool r) ∧ Drawn0 w w' := by
  have HR0 := Aside0.mk hr0
  have HC0 := Aside0.mk hc0
  clear hr0 hc0
  have HR1 := Aside0.mk hr1
  have HC1 := Aside0.mk hc1
  clear hr1 hc1
  have H : (some ((strOfNums l0).toList == (strOfNums l1).toList)) = some r := h
  clear h
  obtain rfl := Option.some.inj H
  have hcv3 := Kd.C_string (P := Try.prog) (A := A0) (c := c0) Try.underlying23 Try.underlying5 Try.underlying9 HR0.out
  have hcv4 := Kd.C_string (P := Try.prog) (A := A1) (c := c1) Try.underlying23 Try.underlying5 Try.underlying9 HR1.out
  go_enter Try.func36, Try.ntmps36
  go_wp2
  go_ret
  exact ⟨by first | rfl | (simp; done) | (simp [*]; done), by repeat (first | exact Drawn0.refl _ | apply Drawn0.step)⟩

end Go.Proofs.Ytiaoehjldbnpkaa.PT

namespace Go.Proofs.Ytiaoehjldbnpkaa.PT
open Go.RowKit Go.Proofs.YtiaoehjldbnpkaaW.PrintWords Go.Proofs.YtiaoehjldbnpkaaW.PrintLast Go.Proofs.YtiaoehjldbnpkaaW.PrintMore
attribute [local go_sem] max2_int min2_int max_two min_two max_three min_three max_four min_four   -- for this text's walks alone
set_option linter.unusedVariables false
set_option linter.unusedSimpArgs false

/-! ### bytes_Equal: function 36 -/
def bytes_Equal.f (l0 : List Int) (l1 : List Int) : Option (Bool) := if Pl.byteB l0 = true ∧ Pl.byteB l1 = true then some (l0 == l1) else none
theorem bytes_Equal.calls (A0 : Option Addr) (c0 : Nat) (l0 : List Int) (A1 : Option Addr) (c1 : Nat) (l1 : List Int) (r : Bool) (w : World) (hr0 : Kd.C (Kd.int .u8) w A0 l0.length l0) (hc0 : l0.length ≤ c0) (hr1 : Kd.C (Kd.int .u8) w A1 l1.length l1) (hc1 : l1.length ≤ c1) (h : bytes_Equal.f l0 l1 = some r) :
    Calls Try.prog 36 #[.slice A0 l0.length c0, .slice A1 l1.length c1] w fun e w' => e = .returned (.bool r) ∧ Drawn0 w w' := by
  refine bytes_Equal_p.calls A0 c0 l0 A1 c1 l1 r w hr0 hc0 hr1 hc1 ?_
  unfold bytes_Equal.f at h
  split at h
  case isFalse => cases h
  rename_i hh
  unfold bytes_Equal_p.f
  rw [Pl.str_eq hh.1 hh.2]
  exact h

end Go.Proofs.Ytiaoehjldbnpkaa.PT

namespace Go.Proofs.Ytiaoehjldbnpkaa.PT
open Go.RowKit Go.Proofs.YtiaoehjldbnpkaaW.PrintWords Go.Proofs.YtiaoehjldbnpkaaW.PrintLast Go.Proofs.YtiaoehjldbnpkaaW.PrintMore
attribute [local go_sem] max2_int min2_int max_two min_two max_three min_three max_four min_four   -- for this text's walks alone
set_option linter.unusedVariables false
set_option linter.unusedSimpArgs false

/-! ### crc_Open: function 17 -/
def crc_Open.f (l0 : List Int) : Option (List Int × Int) := if Pl.byteB l0 = true ∧ l0.length < 70368744177664 then some (Pl.openS l0) else none
set_option maxHeartbeats 2000000 in
theorem crc_Open.calls (A0 : Option Addr) (c0 : Nat) (l0 : List Int) (r1 : List Int) (r2 : Int) (w : World) (hr0 : Kd.C (Kd.int .u8) w A0 l0.length l0) (hc0 : l0.length ≤ c0) (h : crc_Open.f l0 = some (r1, r2)) :
    Calls Try.prog 17 #[.slice A0 l0.length c0] w fun e w' => ∃ v0_ : Value, e = .returned (.tuple #[v0_, .int .i64 r2]) ∧ Kd.R (Kd.int .u8) 5 w' w.heap.size (fun _ => True) v0_ r1 ∧ Below w.heap.size w w' := by
  unfold crc_Open.f at h
  split at h
  case isFalse => cases h
  rename_i hh
  obtain ⟨hby, hlen⟩ := hh
  replace h := Option.some.inj h
  have HR0 := Aside0.mk hr0
  have HC0 := Aside0.mk hc0
  have HBY := Aside0.mk hby
  clear hr0 hc0 hby
  by_cases hlt : l0.length < 4
  · have ho : Pl.openB l0 = false := by unfold Pl.openB; rw [decide_eq_false (by omega)]; rfl
    rw [Pl.openS, if_neg (by rw [ho]; decide)] at h
    obtain ⟨rfl, rfl⟩ := Prod.mk.inj h
    clear h ho
    have d1 : decide ((l0.length : Int) - 4 < 0) = true := decide_eq_true (by omega)
    go_enter Try.func17, Try.ntmps17
    go_wp2
    go_ret2
    exact ⟨_, rfl, Kd.R_nil _ _ _ _ _, Below.refl _ _⟩
  · obtain ⟨i0, hi, hz0, hz1, hz2⟩ := info_parts info5
    obtain ⟨m, hm⟩ : ∃ m, m = l0.length - 4 := ⟨_, rfl⟩
    obtain ⟨hcut, -, hC⟩ := print_take_of (P := Try.prog) (Value.int .u8) 0 23 5 .i64 Try.underlying23 hi hz1 A0 c0 l0 ((l0.length : Int) - 4) (by omega) (by omega) HC0.out
    have e4 : ((l0.length : Int) - 4).toNat = m := by omega
    have hml : (l0.take m).length = m := by rw [List.length_take]; omega
    rw [e4, hml] at hcut hC
    have HT : Aside0 (Kd.C (Kd.int .u8) w A0 m (l0.take m)) := ⟨by have := Kx.takeC m (by omega) HR0.out; rw [hml] at this; exact this⟩
    have hbt : Pl.byteB (l0.take m) = true := Pl.byteB_iff.2 fun x hx => Pl.byteB_iff.1 HBY.out x (List.mem_of_mem_take hx)
    have hS := fun (w : World) (hr : Kd.C (Kd.int .u8) w A0 (l0.take m).length (l0.take m)) => crc_Seal.calls A0 c0 (l0.take m) _ w hr (by omega) (by unfold crc_Seal.f; rw [if_pos ⟨hbt, by omega⟩])
    rw [hml] at hS
    have HS := Aside0.mk hS
    clear hS
    have hq : Pl.openB l0 = (Pl.seal4 (l0.take m) == l0) := by unfold Pl.openB; rw [decide_eq_true (by omega), ← hm]; rfl
    have HQ := Aside0.mk hq
    have hE := fun (A1 : Option Addr) (c1 : Nat) (w : World) (hr : Kd.C (Kd.int .u8) w A1 (Pl.seal4 (l0.take m)).length (Pl.seal4 (l0.take m))) (hc : (Pl.seal4 (l0.take m)).length ≤ c1) (hr' : Kd.C (Kd.int .u8) w A0 l0.length l0) => bytes_Equal.calls A1 c1 (Pl.seal4 (l0.take m)) A0 c0 l0 (Pl.openB l0) w hr hc hr' HC0.out (by unfold bytes_Equal.f; rw [if_pos ⟨Pl.seal4_byte hbt, HBY.out⟩, hq])
    have HE := Aside0.mk hE
    clear hE hq hbt
    obtain ⟨q, hqq⟩ : ∃ q, q = Pl.seal4 (l0.take m) := ⟨_, rfl⟩
    rw [← hqq] at HS HE HQ
    clear hqq
    have d1 : decide ((l0.length : Int) - 4 < 0) = false := decide_eq_false (by omega)
    obtain ⟨b, hb⟩ : ∃ b, b = Pl.openB l0 := ⟨_, rfl⟩
    rw [← hb] at HE HQ
    unfold Pl.openS at h
    rw [← hb, ← hm] at h
    clear hb
    have HM := Aside0.mk hm
    clear hm HQ
    cases b with
    | true =>
      obtain ⟨rfl, rfl⟩ := Prod.mk.inj h
      clear h
      go_enter Try.func17, Try.ntmps17
      go_wp2_with fail
      refine (HS.out _ HT.out).mono ?_
      rintro e w1 ⟨v1, rfl, ho1, hb1⟩
      obtain ⟨A1, c1, rfl, hc1, hr1⟩ := Kd.R_reads ho1
      have HB1 := Aside0.mk hb1
      have HC1 := Aside0.mk hc1
      have HR1 := Aside0.mk hr1
      have hsz : w.heap.size ≤ w1.heap.size := hb1.size
      clear ho1 hb1 hr1 hc1
      go_wp2_with fail
      refine (HE.out _ _ _ HR1.out HC1.out (Kd.C_below HR0.out HB1.out)).mono ?_
      rintro e w' ⟨rfl, ⟨nd, rfl⟩⟩
      have HB := Aside0.mk (pw_below_drewN HB1.out nd)
      clear HB1
      go_wp2_with (first | ((with_reducible refine gate_dst (N := 19) rfl ?_); refine Kd.R_lit (Kd.int .u8) _ 5 ?hg (N := 19) ?hd (xs := ([] : List Int)) (inner := []) (ok := fun _ => True) (okp := fun _ => True) ?hr ?hp (fun _ hk => hk) trivial (Below.refl _ _) (Nat.le_refl _) (by simp) ?_; (case hd => rfl); (case hg => rfl); (case hr => first | (go_simp; done) | (go_simp; rfl)); (case hp => exact (Reps.none _ _)); intro v110 w13 ho14 hb hg_ hnew_; clear hg_ hnew_; have n0_ := Aside0.mk (Kd.R_lower ho14 (below_size HB.out)); have n1_ := Aside0.mk (below_step HB.out hb); clear HB; have HO111 := n0_; have HB := n1_; clear n0_ n1_; clear hb ho14) | ((with_reducible refine gate_builtin (b := .append) (xs := #[.tmp 19, .tmp 22]) rfl ?_); at_builtin; go_must (refine Kd.R_append_rows (Kd.int .u8) (w0 := w) w.heap.size rfl (.tmp 19) (.tmp 22) 23 5 (.int .u8 0) 1 rfl Try.underlying23 info5 rfl (by decide) (by omega) v110 [] (l0.take m) _ m _ (fun _ => True) (fun _ => False) rfl rfl ?aO ?aR (fun _ _ h => h) (fun _ h => h.elim) ?aF ?aB ?aS ?aL ?_); (case aR => exact (Kd.C_below HT.out HB.out)); (case aB => exact HB.out); (case aF => exact (fun _ _ => trivial)); (case aO => exact HO111.out); (case aS => exact below_size HB.out); (case aL => have := HM.out; simp; omega); intro v113 w15 ho hb hg hat; have n0_ := Aside0.mk (hb); have n1_ := Aside0.mk (ho); clear HB; clear HO111; have HB := n0_; have HO114 := n1_; clear n0_ n1_; clear ho hb hg hat))
      go_ret2
      exact ⟨_, rfl, HO114.out, HB.out⟩
    | false =>
      obtain ⟨rfl, rfl⟩ := Prod.mk.inj h
      clear h
      go_enter Try.func17, Try.ntmps17
      go_wp2_with fail
      refine (HS.out _ HT.out).mono ?_
      rintro e w1 ⟨v1, rfl, ho1, hb1⟩
      obtain ⟨A1, c1, rfl, hc1, hr1⟩ := Kd.R_reads ho1
      have HB1 := Aside0.mk hb1
      have HC1 := Aside0.mk hc1
      have HR1 := Aside0.mk hr1
      clear ho1 hb1 hr1 hc1
      go_wp2_with fail
      refine (HE.out _ _ _ HR1.out HC1.out (Kd.C_below HR0.out HB1.out)).mono ?_
      rintro e w' ⟨rfl, ⟨nd, rfl⟩⟩
      go_wp2
      go_ret2
      exact ⟨_, rfl, Kd.R_nil _ _ _ _ _, pw_below_drewN HB1.out nd⟩

end Go.Proofs.Ytiaoehjldbnpkaa.PT

namespace Go.Proofs.Ytiaoehjldbnpkaa.PT
open Go.RowKit Go.Proofs.YtiaoehjldbnpkaaW.PrintWords Go.Proofs.YtiaoehjldbnpkaaW.PrintLast Go.Proofs.YtiaoehjldbnpkaaW.PrintMore
attribute [local go_sem] max2_int min2_int max_two min_two max_three min_three max_four min_four   -- for this text's walks alone
set_option linter.unusedVariables false
set_option linter.unusedSimpArgs false

/-! ### crc_matrix_times: function 39 -/
/-- A matrix of thirty-two columns. -/
def matA (f : Nat → Nat) : Array Value := Arr.numA .u32 32 (fun i => (f i : Int))
theorem matA_in {w : World} {g t : Nat} {f : Nat → Nat} (h : w.heap[g]? = some (.cells (matA f) t (0, 0))) : Arr.IsA w g t .u32 32 (fun i => (f i : Int)) := h
set_option maxHeartbeats 2000000 in
theorem crc_matrix_times.calls (f : Nat → Nat) (n : Nat) (w : World) (hf : ∀ i, i < 32 → f i < 4294967296) (hn : n < 4294967296) :
    Calls Try.prog 39 #[.agg (matA f), .int .u32 (n : Int)] w fun e w' => e = .returned (.int .u32 ((Pl.colTo f n 32 : Nat) : Int)) ∧ Below w.heap.size w w' := by
  have HF := Aside0.mk hf
  clear hf
  obtain ⟨B, hB⟩ : ∃ B, B = w.heap.size := ⟨_, rfl⟩
  have HBN := Aside0.mk hB
  clear hB
  go_enter Try.func39, Try.ntmps39
  go_wp2
  rw [← HBN.out]
  go_loopw [4, 6] (fun s i wr => ∃ (x : Nat) (k : Nat), k ≤ 32 ∧ i = .int .i64 k ∧ s = .int .u32 (x : Int) ∧ x < 4294967296 ∧ Aside0 (x = Pl.colTo f n k) ∧ Aside0 (wr.heap[B]? = some (.cells (matA f) 61 (0, 0))) ∧ Aside0 (Below w.heap.size w wr)) (fun _ i _ => 32 - (intOf i).toNat)
  case atStart => exact ⟨0, 0, by decide, rfl, rfl, by decide, ⟨rfl⟩, ⟨by rw [HBN.out]; exact heap_alloc_new w _⟩, ⟨(Below.refl _ _).alloc (Nat.le_refl _) _⟩⟩
  case round =>
    obtain ⟨x, k, hk, rfl, rfl, hx, hxe, hM, hBel⟩ := hrel
    by_cases hlt : k < 32
    · have t1 := (matA_in hM.out).cell k hlt
      have hfk := HF.out k hlt
      obtain ⟨v, hv0⟩ : ∃ v, v = f k := ⟨_, rfl⟩
      rw [← hv0] at t1 hfk
      have hv := Aside0.mk hv0
      clear hv0
      have hnk : n / 2 ^ k < 4294967296 := Nat.lt_of_le_of_lt (Nat.div_le_self _ _) hn
      have qa : bits .and .u32 ((n : Int) / 2 ^ k) 1 = ((n / 2 ^ k % 2 : Nat) : Int) := by
        rw [show (n : Int) / 2 ^ k = ((n / 2 ^ k : Nat) : Int) from by push_cast; rfl, show (1 : Int) = ((1 : Nat) : Int) from rfl, Arr.a32 hnk (by decide), nat_mask1]
      obtain ⟨y, hy⟩ : ∃ y, y = Pl.colTo f n (k + 1) := ⟨_, rfl⟩
      have HY := Aside0.mk hy
      rw [Pl.colTo] at hy
      rcases Nat.mod_two_eq_zero_or_one (n / 2 ^ k) with e | e
      · rw [e] at qa
        rw [if_neg (by omega), Nat.xor_zero, ← hxe.out] at hy
        subst hy
        have qa' : bits .and .u32 ((n : Int) / 2 ^ k) 1 = 0 := qa
        have qb : bits .and .u32 (v : Int) 0 = 0 := by rw [show (0 : Int) = ((0 : Nat) : Int) from rfl, Arr.a32 hfk (by decide), Nat.and_zero]
        have qc : bits .xor .u32 (y : Int) 0 = (y : Int) := by rw [show (0 : Int) = ((0 : Nat) : Int) from rfl, Arr.x32 hx (by decide), Nat.xor_zero]
        clear qa e hnk
        go_wp2
        go_quiet (fail)
        go_wp2
        go_roundw
        case rel => exact ⟨y, k + 1, by omega, by go_num, rfl, hx, HY, hM, ⟨pw_below_drewN hBel.out _⟩⟩
        case measure => simp [intOf]; omega
      · rw [e] at qa
        rw [if_pos e, ← hxe.out, ← hv.out] at hy
        have qa' : bits .and .u32 ((n : Int) / 2 ^ k) 1 = 1 := qa
        have qb : bits .and .u32 (v : Int) 4294967295 = (v : Int) := by
          rw [show (4294967295 : Int) = ((4294967295 : Nat) : Int) from rfl, Arr.a32 hfk (by decide), show (4294967295 : Nat) = 2 ^ 32 - 1 from rfl, Nat.and_two_pow_sub_one_eq_mod, Nat.mod_eq_of_lt hfk]
        have qc : bits .xor .u32 (x : Int) (v : Int) = (y : Int) := by rw [Arr.x32 hx hfk, hy]
        have hy32 : y < 4294967296 := by rw [hy]; exact Pl.xor_lt hx hfk
        clear qa e hnk hy
        go_wp2
        go_quiet (fail)
        go_wp2
        go_roundw
        case rel => exact ⟨y, k + 1, by omega, by go_num, rfl, hy32, HY, hM, ⟨pw_below_drewN hBel.out _⟩⟩
        case measure => simp [intOf]; omega
    · have hke : Aside0 (k = 32) := ⟨by omega⟩
      go_wp2
      go_ret
      exact ⟨congrArg (fun z : Nat => Ending.returned (.int .u32 (z : Int))) (hxe.out.trans (by rw [hke.out])), hBel.out⟩

end Go.Proofs.Ytiaoehjldbnpkaa.PT

namespace Go.Proofs.Ytiaoehjldbnpkaa.PT
open Go.RowKit Go.Proofs.YtiaoehjldbnpkaaW.PrintWords Go.Proofs.YtiaoehjldbnpkaaW.PrintLast Go.Proofs.YtiaoehjldbnpkaaW.PrintMore
attribute [local go_sem] max2_int min2_int max_two min_two max_three min_three max_four min_four   -- for this text's walks alone
set_option linter.unusedVariables false
set_option linter.unusedSimpArgs false

/-! ### crc_Join: function 22 -/
/-- What holds at the label: m pairs of matrices are to come, each of e steps. -/
structure JoinInv (a N x m e : Nat) : Prop where
  lt : x < 4294967296
  m30 : m ≤ 1073741824
  goes : Pl.stpN (e * m) x = Pl.stpN (8 * N) a
theorem mat_size (f g : Nat → Nat) : (matA f).size = (matA g).size := (Arr.numA_size _ _ _).trans (Arr.numA_size _ _ _).symm
theorem mat_info (f : Nat → Nat) : (Try.prog.info? 61).map (·.size) = some (matA f).size := by
  rw [show (matA f).size = 32 from Arr.numA_size _ _ _]
  kernel_rfl
theorem join_info : (Try.prog.info? 22).map (fun i => (i.zero, i.size, i.bytes)) = some (some (.int .u32 0), 1, 4) := by kernel_rfl
set_option maxHeartbeats 8000000 in
set_option maxRecDepth 100000 in
theorem crc_Join.core (a b : Nat) (n : Int) (w : World) (ha : a < 4294967296) (hb : b < 4294967296) :
    Calls Try.prog 22 #[.int .u32 (a : Int), .int .u32 (b : Int), .int .i64 n] w fun e w' => e = .returned (.int .u32 ((Pl.join a b n : Nat) : Int)) ∧ Below w.heap.size w w' := by
  obtain ⟨B, hB⟩ : ∃ B, B = w.heap.size + 1 := ⟨_, rfl⟩
  have HBN := Aside0.mk hB
  clear hB
  obtain ⟨C, hC⟩ : ∃ C, C = w.heap.size + 1 + 1 := ⟨_, rfl⟩
  have HCN := Aside0.mk hC
  clear hC
  obtain ⟨N, hN⟩ : ∃ N : Nat, (N : Int) = min (max n 0) 1073741824 := ⟨(min (max n 0) 1073741824).toNat, by omega⟩
  have HNN := Aside0.mk hN
  clear hN
  go_enter Try.func22, Try.ntmps22
  go_wp2
  refine Arr.wp_scope_once 0 (fun a' w' => ∃ (x m e : Nat) (u3 u4 u5 u9 u10 u11 u12 u13 u14 u15 u16 u17 u18 u19 u20 u21 u22 u23 u24 u25 u26 u27 u28 u29 u30 u31 u32 u33 u34 u35 u36 u37 u38 u39 u40 u41 u42 u43 u44 u45 u46 u47 u48 u49 u50 u51 u52 u53 u54 u55 u56 u57 u58 u59 u60 u61 u62 u63 u64 : Value), a' = { tmps := #[.int .u32 (x : Int), .int .u32 (b : Int), .int .i64 (m : Int), u3, u4, u5, .int .u32 0, .pointer (some ⟨B, 0, none⟩), .pointer (some ⟨C, 0, none⟩), u9, u10, u11, u12, u13, u14, u15, u16, u17, u18, u19, u20, u21, u22, u23, u24, u25, u26, u27, u28, u29, u30, u31, u32, u33, u34, u35, u36, u37, u38, u39, u40, u41, u42, u43, u44, u45, u46, u47, u48, u49, u50, u51, u52, u53, u54, u55, u56, u57, u58, u59, u60, u61, u62, u63, u64], defers := [] } ∧ JoinInv a N x m e ∧ Aside0 (w'.heap[C]? = some (.cells (matA (fun i => Pl.stpN e (2 ^ i))) 61 (0, 0))) ∧ Aside0 (Below w.heap.size w w')) (fun a' _ => (intOf (a'.tmps.getD 2 undef)).toNat) rfl (fun hgo => ?_) ?_
  · have HG := Aside0.mk hgo
    clear hgo
    go_wp2_with (first | (go_at_call 37; refine (crc_halves.calls _).mono ?_; rintro e w' ⟨rfl, rfl⟩) | ((with_reducible refine Arr.wpList_store_row rfl 57 (.tmp 7) (.tmp 14) rfl rfl (w.heap.size + 1) rfl 57 _ halvesA rfl (heap_alloc2_new w _ _) (by kernel_rfl) rfl (by kernel_rfl) ?_)))
    rw [← HCN.out, ← HBN.out]
    go_loopw [15] (fun i wr => ∃ (k : Nat), k ≤ 32 ∧ i = .int .i64 k ∧ Aside0 (wr.heap[B]? = some (.cells halvesA 57 (0, 0))) ∧ Aside0 (wr.heap[C]? = some (.cells (matA (fun i => if i < k then Pl.stpN 8 (2 ^ i) else 0)) 61 (0, 0))) ∧ Aside0 (Below w.heap.size w wr)) (fun i _ => 32 - (intOf i).toNat)
    case atStart =>
      refine ⟨0, by decide, rfl, ⟨?_⟩, ⟨?_⟩, ⟨?_⟩⟩
      · rw [HBN.out]; exact (heap_alloc_old _ _ (by simp)).trans (setRow_heap _ _ _ _ _ _ (heap_alloc2_new w _ _))
      · have e0 : matA (fun i => if i < 0 then Pl.stpN 8 (2 ^ i) else 0) = #[.int .u32 0, .int .u32 0, .int .u32 0, .int .u32 0, .int .u32 0, .int .u32 0, .int .u32 0, .int .u32 0, .int .u32 0, .int .u32 0, .int .u32 0, .int .u32 0, .int .u32 0, .int .u32 0, .int .u32 0, .int .u32 0, .int .u32 0, .int .u32 0, .int .u32 0, .int .u32 0, .int .u32 0, .int .u32 0, .int .u32 0, .int .u32 0, .int .u32 0, .int .u32 0, .int .u32 0, .int .u32 0, .int .u32 0, .int .u32 0, .int .u32 0, .int .u32 0] := by kernel_rfl
        rw [e0]
        obtain ⟨X, hX⟩ : ∃ X, X = ((w.alloc (.cells halvesA 57)).alloc (.cells #[.int .u32 0, .int .u32 0, .int .u32 0, .int .u32 0, .int .u32 0, .int .u32 0, .int .u32 0, .int .u32 0, .int .u32 0, .int .u32 0, .int .u32 0, .int .u32 0, .int .u32 0, .int .u32 0, .int .u32 0, .int .u32 0] 57)).setRow B halvesA := ⟨_, rfl⟩
        rw [← hX]
        have hs : X.heap.size = C := by rw [hX, HCN.out]; simp
        rw [← hs]
        exact heap_alloc_new X _
      · rw [HBN.out]; exact (below_setRow (((Below.refl _ _).alloc (Nat.le_refl _) _).alloc (by simp) _) (by omega) _).alloc (by simp; omega) _
    case round =>
      obtain ⟨k, hk, rfl, hT, hM, hBel⟩ := hrel
      by_cases hlt : k < 32
      · obtain ⟨z, hz⟩ : ∃ z, z = 2 ^ k := ⟨_, rfl⟩
        have hz32 : z < 4294967296 := by rw [hz]; exact Nat.pow_lt_pow_right (m := k) (n := 32) (by decide) hlt
        have q0 : (2 : Int) ^ k % 4294967296 = (z : Int) := by
          rw [show (2 : Int) ^ k = ((2 ^ k : Nat) : Int) from by push_cast; rfl, ← hz]
          omega
        obtain ⟨i1, hi1⟩ : ∃ i, i = z % 16 := ⟨_, rfl⟩
        have q2 : bits .and .u32 (z : Int) 15 = (i1 : Int) := by rw [hi1]; exact (Arr.a32 hz32 (by decide)).trans (by rw [nat_mask4])
        have hi1' : i1 < 16 := by omega
        have t1 := (halves_in wr B hT.out).cell i1 hi1'
        obtain ⟨v1, hv1⟩ : ∃ v, v = Pl.stpN 4 i1 := ⟨_, rfl⟩
        have hv1' : v1 < 4294967296 := by rw [hv1]; exact Pl.stpN_lt 4 (by omega)
        rw [← hv1] at t1
        obtain ⟨y, hy⟩ : ∃ y, y = Pl.half z := ⟨_, rfl⟩
        have hy32 : y < 4294967296 := by rw [hy, Pl.half_eq]; exact Pl.stpN_lt 4 hz32
        have q3 : bits .xor .u32 ((z : Int) / 16) (v1 : Int) = (y : Int) := by
          rw [show (z : Int) / 16 = ((z / 16 : Nat) : Int) from by omega, Arr.x32 (by omega) hv1', hy, Pl.half, hv1, hi1]
        obtain ⟨i2, hi2⟩ : ∃ i, i = y % 16 := ⟨_, rfl⟩
        have q4 : bits .and .u32 (y : Int) 15 = (i2 : Int) := by rw [hi2]; exact (Arr.a32 hy32 (by decide)).trans (by rw [nat_mask4])
        have hi2' : i2 < 16 := by omega
        have t2 := (halves_in wr B hT.out).cell i2 hi2'
        obtain ⟨v2, hv2⟩ : ∃ v, v = Pl.stpN 4 i2 := ⟨_, rfl⟩
        have hv2' : v2 < 4294967296 := by rw [hv2]; exact Pl.stpN_lt 4 (by omega)
        rw [← hv2] at t2
        obtain ⟨u, hu⟩ : ∃ u, u = Pl.half y := ⟨_, rfl⟩
        have q5 : bits .xor .u32 ((y : Int) / 16) (v2 : Int) = (u : Int) := by
          rw [show (y : Int) / 16 = ((y / 16 : Nat) : Int) from by omega, Arr.x32 (by omega) hv2', hu, Pl.half, hv2, hi2]
        have hfin : Aside0 (u = Pl.stpN 8 (2 ^ k)) := ⟨by rw [hu, hy, Pl.half_half, hz]⟩
        have tc := (matA_in hM.out).cell k hlt
        have tf := (matA_in hM.out).free k
        have hBC : Aside0 (B ≠ C) := ⟨by rw [HBN.out, HCN.out]; omega⟩
        have hset : Aside0 ((wr.setCell ⟨C, k, none⟩ (.int .u32 (u : Int))).heap[C]? = some (.cells (matA (fun i => if i < k + 1 then Pl.stpN 8 (2 ^ i) else 0)) 61 (0, 0))) := ⟨by
          refine ((matA_in hM.out).set k hlt (u : Int)).congr fun i hi => ?_
          show (if i = k then (u : Int) else ((if i < k then Pl.stpN 8 (2 ^ i) else 0 : Nat) : Int)) = ((if i < k + 1 then Pl.stpN 8 (2 ^ i) else 0 : Nat) : Int)
          by_cases e : i = k
          · subst e; rw [if_pos rfl, if_pos (by omega), hfin.out]
          · rw [if_neg e]
            by_cases e2 : i < k
            · rw [if_pos e2, if_pos (by omega)]
            · rw [if_neg e2, if_neg (by omega)]⟩
        clear hy hi1 hv1 hz hi2 hv2 hu hM
        go_wp2
        go_roundw
        case rel => exact ⟨k + 1, by omega, by go_num, ⟨(heap_setCell_other _ _ _ _ hBC.out).trans hT.out⟩, hset, ⟨hBel.out.setCell (by rw [HCN.out]; simp; omega) _⟩⟩
        case measure => simp [intOf]; omega
      · have hk32 : k = 32 := by omega
        have hke := Aside0.mk hk32
        clear hk32
        have hM' : Aside0 (wr.heap[C]? = some (.cells (matA (fun i => Pl.stpN 8 (2 ^ i))) 61 (0, 0))) := ⟨by
          rw [hM.out]
          congr 2
          exact Arr.numA_congr fun i hi => by show ((if i < k then Pl.stpN 8 (2 ^ i) else 0 : Nat) : Int) = _; rw [if_pos (by have := hke.out; omega)]⟩
        clear hM
        rcases (show n < 0 ∨ (0 ≤ n ∧ n ≤ 1073741824) ∨ 1073741824 < n from by omega) with h3 | ⟨h3, h4⟩ | h3
        · have hN0 : N = 0 := by have := HNN.out; omega
          subst hN0
          go_wp2
          go_step3
          have h0 : (0 : Int) = ((0 : Nat) : Int) := rfl
          refine ‹∀ (a : Act) (w : World), Code.wp Try.prog _ _ a w → _› _ _ (HG.out _ _ ⟨a, 0, 8, ?_⟩)
          refine ⟨_, _, _, _, _, _, _, _, _, _, _, _, _, _, _, _, _, _, _, _, _, _, _, _, _, _, _, _, _, _, _, _, _, _, _, _, _, _, _, _, _, _, _, _, _, _, _, _, _, _, _, _, _, _, _, _, _, _, _, rfl, ⟨ha, by decide, by rw [Nat.mul_zero]⟩, hM', hBel⟩
        · obtain ⟨m, rfl⟩ := Int.eq_ofNat_of_zero_le h3
          have hN0 : N = m := by have := HNN.out; omega
          subst hN0
          go_wp2
          go_step3
          refine ‹∀ (a : Act) (w : World), Code.wp Try.prog _ _ a w → _› _ _ (HG.out _ _ ⟨a, N, 8, ?_⟩)
          refine ⟨_, _, _, _, _, _, _, _, _, _, _, _, _, _, _, _, _, _, _, _, _, _, _, _, _, _, _, _, _, _, _, _, _, _, _, _, _, _, _, _, _, _, _, _, _, _, _, _, _, _, _, _, _, _, _, _, _, _, _, rfl, ⟨ha, by omega, rfl⟩, hM', hBel⟩
        · have hN0 : N = 1073741824 := by have := HNN.out; omega
          subst hN0
          go_wp2
          go_step3
          refine ‹∀ (a : Act) (w : World), Code.wp Try.prog _ _ a w → _› _ _ (HG.out _ _ ⟨a, 1073741824, 8, ?_⟩)
          refine ⟨_, _, _, _, _, _, _, _, _, _, _, _, _, _, _, _, _, _, _, _, _, _, _, _, _, _, _, _, _, _, _, _, _, _, _, _, _, _, _, _, _, _, _, _, _, _, _, _, _, _, _, _, _, _, _, _, _, _, _, rfl, ⟨ha, by decide, rfl⟩, hM', hBel⟩
  · rintro a' w' ⟨x, m, e, u3, u4, u5, u9, u10, u11, u12, u13, u14, u15, u16, u17, u18, u19, u20, u21, u22, u23, u24, u25, u26, u27, u28, u29, u30, u31, u32, u33, u34, u35, u36, u37, u38, u39, u40, u41, u42, u43, u44, u45, u46, u47, u48, u49, u50, u51, u52, u53, u54, u55, u56, u57, u58, u59, u60, u61, u62, u63, u64, rfl, hinv, hM, hBel⟩
    obtain ⟨hx, hm30, hg⟩ := hinv
    have HG := Aside0.mk hg
    clear hg
    by_cases hm0 : m = 0
    · subst hm0
      have q : bits .xor .u32 (x : Int) (b : Int) = ((x ^^^ b : Nat) : Int) := Arr.x32 hx hb
      obtain ⟨y, hy⟩ : ∃ y, y = x ^^^ b := ⟨_, rfl⟩
      rw [← hy] at q
      have HY := Aside0.mk hy
      clear hy
      go_wp2
      simp only [Exit.jump]
      go_ret
      refine ⟨?_, hBel.out⟩
      have e1 := HG.out
      rw [Nat.mul_zero, Pl.stpN] at e1
      have e2 : (min (max n 0) 1073741824).toNat = N := by have := HNN.out; omega
      unfold Pl.join
      rw [HY.out, e1, e2]
      rfl
    · have d0 : ((m : Int) == 0) = false := by simp; omega
      have qm : bits .and .i64 (m : Int) 1 = (m : Int) % 2 := bits_mask .i64 63 (by decide) (fun n h0 h1 => by rw [IntKind.wrap_i64]; omega) 1 (by decide) m (by omega) (by omega)
      have hf : ∀ i, i < 32 → Pl.stpN e (2 ^ i) < 4294967296 := fun i hi => Pl.stpN_lt e (Nat.pow_lt_pow_right (m := i) (n := 32) (by decide) hi)
      have HF := Aside0.mk hf
      clear hf
      obtain ⟨j, hj⟩ : ∃ j, j = m / 2 := ⟨_, rfl⟩
      have HJ := Aside0.mk hj
      clear hj
      go_upto_if 47 with ((fail))
      go_cut [0, 48, 49, 50] (fun s a1 a2 a3 wc => ∃ y : Nat, s = .int .u32 (y : Int) ∧ y < 4294967296 ∧ Aside0 (Pl.stpN (e * (2 * j)) y = Pl.stpN (8 * N) a) ∧ Aside0 (wc.heap[C]? = some (.cells (matA (fun i => Pl.stpN e (2 ^ i))) 61 (0, 0))) ∧ Aside0 (Below w.heap.size w wc))
      case first =>
        rcases Nat.mod_two_eq_zero_or_one m with h2 | h2
        · have q2 : (m : Int) % 2 = 0 := by omega
          have hgo : Aside0 (Pl.stpN (e * (2 * j)) x = Pl.stpN (8 * N) a) := ⟨by rw [← HG.out, show 2 * j = m from by have := HJ.out; omega]⟩
          clear h2
          go_wp2
          go_meet
          case rel => exact ⟨x, rfl, hx, hgo, hM, hBel⟩
        · have q2 : (m : Int) % 2 = 1 := by omega
          obtain ⟨y, hy⟩ : ∃ y, y = Pl.colTo (fun i => Pl.stpN e (2 ^ i)) x 32 := ⟨_, rfl⟩
          have hye : y = Pl.stpN e x := by rw [hy]; exact Pl.col_stp e x hx _ (fun i _ => rfl)
          have hy32 : y < 4294967296 := by rw [hye]; exact Pl.stpN_lt e hx
          have hgo : Aside0 (Pl.stpN (e * (2 * j)) y = Pl.stpN (8 * N) a) := ⟨by rw [← HG.out, show m = 1 + 2 * j from by have := HJ.out; omega, Nat.mul_add, Nat.mul_one, Pl.stpN_add, hye]⟩
          have HC := fun w1 => crc_matrix_times.calls (fun i => Pl.stpN e (2 ^ i)) x w1 HF.out hx
          rw [← hy] at HC
          have HC' := Aside0.mk HC
          clear HC hy hye h2
          have hCl : Aside0 (C < w'.heap.size) := ⟨(matA_in hM.out).lt⟩
          go_wp2_with (first | ((with_reducible refine gate_dst (N := 48) rfl ?_); refine wpList_load_row rfl 61 (.tmp 8) rfl C rfl 61 _ (0, 0) _ hM.out Try.underlying61 rfl (by kernel_rfl) ?_) | (go_at_call 39; refine (HC'.out _).mono ?_; rintro e1 w1 ⟨rfl, hb1⟩; have HB1 := Aside0.mk hb1; clear hb1))
          go_meet
          case rel => exact ⟨y, rfl, hy32, hgo, ⟨(HB1.out.block C hCl.out).trans hM.out⟩, ⟨below_then hBel.out hBel.out.size HB1.out⟩⟩
      case rest =>
        obtain ⟨y, rfl, hy, hyg, hM1, hBel1⟩ := hcut
        clear hM hBel HG hx
        obtain ⟨D, hD⟩ : ∃ D, D = wc.heap.size := ⟨_, rfl⟩
        have HD := Aside0.mk hD
        clear hD
        have hCl : Aside0 (C < wc.heap.size) := ⟨(matA_in hM1.out).lt⟩
        have hm2 : (m : Int) / 2 = (j : Int) := by have := HJ.out; omega
        go_wp2_with (first | ((with_reducible refine gate_dst (N := 51) rfl ?_); refine wpList_load_row rfl 61 (.tmp 8) rfl C rfl 61 _ (0, 0) _ ((heap_alloc_old _ _ hCl.out).trans hM1.out) Try.underlying61 rfl (by kernel_rfl) ?_))
        rw [← HD.out]
        go_loopw [12, 13, 52] (fun _ _ i wr => ∃ (k : Nat), k ≤ 32 ∧ i = .int .i64 k ∧ Aside0 (wr.heap[D]? = some (.cells (matA (fun i => if i < k then Pl.stpN (e + e) (2 ^ i) else 0)) 61 (0, 0))) ∧ Aside0 (wr.heap[C]? = some (.cells (matA (fun i => Pl.stpN e (2 ^ i))) 61 (0, 0))) ∧ Aside0 (Below w.heap.size w wr)) (fun _ _ i _ => 32 - (intOf i).toNat)
        case atStart =>
          refine ⟨0, by decide, rfl, ⟨?_⟩, ⟨(heap_alloc_old _ _ hCl.out).trans hM1.out⟩, ⟨hBel1.out.alloc hBel1.out.size _⟩⟩
          have e0 : matA (fun i => if i < 0 then Pl.stpN (e + e) (2 ^ i) else 0) = #[.int .u32 0, .int .u32 0, .int .u32 0, .int .u32 0, .int .u32 0, .int .u32 0, .int .u32 0, .int .u32 0, .int .u32 0, .int .u32 0, .int .u32 0, .int .u32 0, .int .u32 0, .int .u32 0, .int .u32 0, .int .u32 0, .int .u32 0, .int .u32 0, .int .u32 0, .int .u32 0, .int .u32 0, .int .u32 0, .int .u32 0, .int .u32 0, .int .u32 0, .int .u32 0, .int .u32 0, .int .u32 0, .int .u32 0, .int .u32 0, .int .u32 0, .int .u32 0] := rfl
          rw [e0, HD.out]
          exact heap_alloc_new _ _
        case round =>
          obtain ⟨k, hk, rfl, hE, hM2, hBel2⟩ := hrel
          obtain ⟨i0, hi, hz0, hz1, hz2⟩ := info_parts join_info
          by_cases hlt : k < 32
          · have hix := fun W => Arr.run_index_num (P := Try.prog) (k := .u32) (w := W) Try.underlying61 Try.underlying22 hi hz1 (fun i => ((Pl.stpN e (2 ^ i) : Nat) : Int)) k hlt
            obtain ⟨v, hv⟩ : ∃ v, v = Pl.stpN e (2 ^ k) := ⟨_, rfl⟩
            have hv32 : v < 4294967296 := by rw [hv]; exact HF.out k hlt
            have hix' : ∀ W, (Instr.index 61 (.agg (matA (fun i => Pl.stpN e (2 ^ i)))) (.int .i64 (k : Int))).run Try.prog W = .ok (.int .u32 (v : Int)) W := fun W => by rw [hv]; exact hix W
            obtain ⟨z, hz⟩ : ∃ z, z = Pl.colTo (fun i => Pl.stpN e (2 ^ i)) v 32 := ⟨_, rfl⟩
            have hze : z = Pl.stpN (e + e) (2 ^ k) := by rw [hz, Pl.col_stp e v hv32 _ (fun i _ => rfl), hv, Pl.stpN_add]
            have HT := fun w1 => crc_matrix_times.calls (fun i => Pl.stpN e (2 ^ i)) v w1 HF.out hv32
            rw [← hz] at HT
            have HT' := Aside0.mk HT
            have HZ := Aside0.mk hze
            clear HT hz hze hv hix hi hz0 hz1 hz2
            have hCl2 : Aside0 (C < wr.heap.size) := ⟨(matA_in hM2.out).lt⟩
            have hDl2 : Aside0 (D < wr.heap.size) := ⟨(matA_in hE.out).lt⟩
            have hCD : Aside0 (C ≠ D) := ⟨by rw [HD.out]; have := hCl.out; omega⟩
            go_wp2_with (first | ((with_reducible refine gate_dst (N := 57) rfl ?_); refine wpList_load_row rfl 61 (.tmp 8) rfl C rfl 61 _ (0, 0) _ hM2.out Try.underlying61 rfl (by kernel_rfl) ?_) | (go_at_call 39; refine (HT'.out _).mono ?_; rintro e1 w1 ⟨rfl, hb1⟩; have HB1 := Aside0.mk hb1; have tc := (matA_in ((hb1.block D hDl2.out).trans hE.out)).cell k hlt; have tf := (matA_in ((hb1.block D hDl2.out).trans hE.out)).free k; clear hb1))
            go_roundw
            case rel =>
              refine ⟨k + 1, by omega, by go_num, ⟨?_⟩, ⟨(heap_setCell_other _ _ _ _ hCD.out).trans ((HB1.out.block C hCl2.out).trans hM2.out)⟩, ⟨(below_then hBel2.out hBel2.out.size HB1.out).setCell (by rw [HD.out]; exact hBel1.out.size) _⟩⟩
              refine ((matA_in ((HB1.out.block D hDl2.out).trans hE.out)).set k hlt (z : Int)).congr fun i hi => ?_
              show (if i = k then (z : Int) else ((if i < k then Pl.stpN (e + e) (2 ^ i) else 0 : Nat) : Int)) = ((if i < k + 1 then Pl.stpN (e + e) (2 ^ i) else 0 : Nat) : Int)
              by_cases e2 : i = k
              · subst e2; rw [if_pos rfl, if_pos (by omega), HZ.out]
              · rw [if_neg e2]
                by_cases e3 : i < k
                · rw [if_pos e3, if_pos (by omega)]
                · rw [if_neg e3, if_neg (by omega)]
            case measure => simp [intOf]; omega
          · have hE' : Aside0 (wr.heap[D]? = some (.cells (matA (fun i => Pl.stpN (e + e) (2 ^ i))) 61 (0, 0))) := ⟨by
              refine (matA_in hE.out).congr fun i hi => ?_
              show ((if i < k then Pl.stpN (e + e) (2 ^ i) else 0 : Nat) : Int) = _
              rw [if_pos (by omega)]⟩
            clear hi hz0 hz1 hz2 hE
            go_wp2_with (first | ((with_reducible refine gate_dst (N := 62) rfl ?_); refine wpList_load_row rfl 61 (.tmp 11) rfl D rfl 61 _ (0, 0) _ hE'.out Try.underlying61 rfl (by kernel_rfl) ?_) | (refine Arr.wpList_store_row rfl 61 (.tmp 8) (.tmp 62) rfl rfl C rfl 61 _ _ rfl hM2.out (mat_info _) (mat_size _ _) (Arr.numA_one _ _ _) ?_))
            go_step3
            refine ⟨rfl, ⟨y, j, e + e, _, _, _, _, _, _, _, _, _, _, _, _, _, _, _, _, _, _, _, _, _, _, _, _, _, _, _, _, _, _, _, _, _, _, _, _, _, _, _, _, _, _, _, _, _, _, _, _, _, _, _, _, _, _, _, _, _, _, _, rfl, ⟨hy, by have := HJ.out; omega, ?_⟩, ⟨?_⟩, ⟨?_⟩⟩, ?_⟩
            · rw [← hyg.out]; congr 1; rw [← Nat.mul_assoc, Nat.mul_comm e 2]; congr 1; omega
            · exact setRow_heap _ _ _ _ _ _ hM2.out
            · exact below_setRow hBel2.out (by rw [HCN.out]; omega) _
            · simp [intOf]; omega
def crc_Join.f (a0 : Int) (a1 : Int) (a2 : Int) : Option Int := if 0 ≤ a0 ∧ a0 < 4294967296 ∧ 0 ≤ a1 ∧ a1 < 4294967296 then some ((Pl.join a0.toNat a1.toNat a2 : Nat) : Int) else none
theorem crc_Join.calls (a0 : Int) (a1 : Int) (a2 : Int) (r : Int) (w : World) (h : crc_Join.f a0 a1 a2 = some r) :
    Calls Try.prog 22 #[.int .u32 a0, .int .u32 a1, .int .i64 a2] w fun e w' => e = .returned (.int .u32 r) ∧ Below w.heap.size w w' := by
  unfold crc_Join.f at h
  split at h
  case isFalse => cases h
  rename_i hh
  obtain ⟨h0, h1, h2, h3⟩ := hh
  obtain rfl := Option.some.inj h
  obtain ⟨a, rfl⟩ := Int.eq_ofNat_of_zero_le h0
  obtain ⟨b, rfl⟩ := Int.eq_ofNat_of_zero_le h2
  exact crc_Join.core a b a2 w (by omega) (by omega)
theorem crc_Join.tells (a b : Nat) (n : Int) (ha : a < 4294967296) (hb : b < 4294967296) : crc_Join.f (a : Int) (b : Int) n = some ((Pl.join a b n : Nat) : Int) := by
  unfold crc_Join.f
  rw [if_pos ⟨by omega, by omega, by omega, by omega⟩, Int.toNat_natCast, Int.toNat_natCast]

end Go.Proofs.Ytiaoehjldbnpkaa.PT

namespace Go.Proofs.Ytiaoehjldbnpkaa.PT
open Go.RowKit Go.Proofs.YtiaoehjldbnpkaaW.PrintWords Go.Proofs.YtiaoehjldbnpkaaW.PrintLast Go.Proofs.YtiaoehjldbnpkaaW.PrintMore
attribute [local go_sem] max2_int min2_int max_two min_two max_three min_three max_four min_four   -- for this text's walks alone
set_option linter.unusedVariables false
set_option linter.unusedSimpArgs false

/-! ### waggonerlaw02_awake: function 16 -/
def waggonerlaw02_awake.f : Option Bool := some true
theorem aw02_seal : crc_Seal.f [116, 101, 120, 116] = some (Pl.seal4 [116, 101, 120, 116]) := by kernel_rfl
theorem aw02_open : crc_Open.f (Pl.seal4 [116, 101, 120, 116]) = some ([116, 101, 120, 116], 0) := by kernel_rfl
theorem aw02_no : crc_Open.f [97, 98, 99] = some ([], 20) := by kernel_rfl
theorem aw02_sum (l : List Int) (n : Nat) (h : Pl.byteB l = true) (e : Pl.sum (Pl.nats l) = n) : crc_Sum.f l = some (n : Int) := by
  unfold crc_Sum.f crc_More.f
  rw [if_pos ⟨by decide, by decide, h⟩, ← e]
  rfl
theorem aw02_more (s : Nat) (l : List Int) (n : Nat) (hs : s < 4294967296) (h : Pl.byteB l = true) (e : Pl.more s (Pl.nats l) = n) : crc_More.f (s : Int) l = some (n : Int) := by
  unfold crc_More.f
  rw [if_pos ⟨by omega, by omega, h⟩, ← e, Int.toNat_natCast]
set_option maxHeartbeats 4000000 in
set_option maxRecDepth 100000 in
theorem waggonerlaw02_awake.calls (r : Bool) (w : World) (h : waggonerlaw02_awake.f = some r) :
    Calls Try.prog 16 #[] w fun e w' => e = .returned (.bool r) ∧ Below w.heap.size w w' := by
  unfold waggonerlaw02_awake.f at h
  obtain rfl := Option.some.inj h
  clear h
  have kc := fun (w : World) (C : Array Value) (n c : Nat) => Lib.run_convert_bytes_const (P := Try.prog) w 23 5 C n c Try.underlying23 Try.underlying5
  go_enter Try.func16, Try.ntmps16
  go_wp2_with fail
  refine (crc_Seal.calls _ _ [116, 101, 120, 116] _ _ (Kx.C_lit _ [116, 101, 120, 116] (by decide) 5 _) (by decide) aw02_seal).mono ?_
  rintro e w1 ⟨v1, rfl, ho, hb⟩
  obtain ⟨A1, c1, rfl, hc1, hr1⟩ := Kd.R_reads ho
  have HB1 := Aside0.mk (below_step (below_alloc (Below.refl w.heap.size w) _) hb)
  have HQ := Aside0.mk aw02_open
  have HC1 := Aside0.mk hc1
  have HR1 := Aside0.mk hr1
  have hql : (Pl.seal4 [116, 101, 120, 116]).length = 8 := by kernel_rfl
  clear ho hb hc1 hr1
  generalize Pl.seal4 [116, 101, 120, 116] = q at *
  go_wp2_with fail
  rw [← hql]
  refine (crc_Open.calls _ _ q _ _ _ HR1.out HC1.out HQ.out).mono ?_
  rintro e w2 ⟨v2, rfl, ho, hb⟩
  obtain ⟨A2, c2, rfl, hc2, hr2⟩ := Kd.R_reads ho
  have HB2 := Aside0.mk (below_step HB1.out hb)
  have HR2 := Aside0.mk hr2
  clear ho hb hc2 hr2 HB1
  go_wp2_with fail
  refine (crc_Open.calls _ _ [97, 98, 99] _ _ _ (Kx.C_lit _ [97, 98, 99] (by decide) 5 _) (by decide) aw02_no).mono ?_
  rintro e w3 ⟨v3, rfl, ho, hb⟩
  obtain ⟨A3, c3, rfl, hc3, hr3⟩ := Kd.R_reads ho
  have HB3 := Aside0.mk (below_step (below_alloc HB2.out _) hb)
  have HR3 := Aside0.mk (Kd.C_below (Kd.C_alloc HR2.out _) hb)
  clear ho hb hc3 hr3 HB2 HR2
  go_wp2_with fail
  refine (crc_Sum.calls _ _ [49, 50, 51, 52, 53] _ _ (Kx.C_lit _ [49, 50, 51, 52, 53] (by decide) 5 _) (by decide) (aw02_sum [49, 50, 51, 52, 53] 416359221 (by kernel_rfl) (by kernel_rfl))).mono ?_
  rintro e w4 ⟨rfl, hb⟩
  have HB4 := Aside0.mk (below_step (below_alloc HB3.out _) hb)
  have HR4 := Aside0.mk (Kd.C_below (Kd.C_alloc HR3.out _) hb)
  clear hb HB3 HR3
  go_wp2_with fail
  refine (crc_Sum.calls _ _ [54, 55, 56, 57] _ _ (Kx.C_lit _ [54, 55, 56, 57] (by decide) 5 _) (by decide) (aw02_sum [54, 55, 56, 57] 3263061426 (by kernel_rfl) (by kernel_rfl))).mono ?_
  rintro e w5 ⟨rfl, hb⟩
  have HB5 := Aside0.mk (below_step (below_alloc HB4.out _) hb)
  have HR5 := Aside0.mk (Kd.C_below (Kd.C_alloc HR4.out _) hb)
  clear hb HB4 HR4
  go_wp2_with fail
  refine (crc_Sum.calls _ _ [49, 50, 51, 52, 53, 54, 55, 56, 57] _ _ (Kx.C_lit _ [49, 50, 51, 52, 53, 54, 55, 56, 57] (by decide) 5 _) (by decide) (aw02_sum [49, 50, 51, 52, 53, 54, 55, 56, 57] 3808858755 (by kernel_rfl) (by kernel_rfl))).mono ?_
  rintro e w6 ⟨rfl, hb⟩
  have HB6 := Aside0.mk (below_step (below_alloc HB5.out _) hb)
  have HR6 := Aside0.mk (Kd.C_below (Kd.C_alloc HR5.out _) hb)
  clear hb HB5 HR5
  go_wp2_with fail
  refine (crc_Sum.calls none 0 [] _ _ (Kd.C_nil _ _) (Nat.le_refl _) (aw02_sum [] 0 (by kernel_rfl) (by kernel_rfl))).mono ?_
  rintro e w7 ⟨rfl, hb⟩
  have HB7 := Aside0.mk (below_step HB6.out hb)
  have HR7 := Aside0.mk (Kd.C_below HR6.out hb)
  clear hb HB6 HR6
  go_wp2_with fail
  refine (crc_More.calls _ _ _ [54, 55, 56, 57] _ _ (Kx.C_lit _ [54, 55, 56, 57] (by decide) 5 _) (by decide) (aw02_more 416359221 [54, 55, 56, 57] 3808858755 (by decide) (by kernel_rfl) (by kernel_rfl))).mono ?_
  rintro e w8 ⟨rfl, hb⟩
  have HB8 := Aside0.mk (below_step (below_alloc HB7.out _) hb)
  have HR8 := Aside0.mk (Kd.C_below (Kd.C_alloc HR7.out _) hb)
  clear hb HB7 HR7
  go_wp2_with fail
  refine (crc_Join.calls _ _ _ 3808858755 _ (by kernel_rfl)).mono ?_
  rintro e w9 ⟨rfl, hb⟩
  have HB9 := Aside0.mk (below_step HB8.out hb)
  have hcv : (convert 23 9 (.slice A2 4 c2)).run Try.prog w9 = .ok (.string ⟨#[116, 101, 120, 116]⟩) w9 := Kd.C_string (P := Try.prog) (A := A2) (c := c2) Try.underlying23 Try.underlying5 Try.underlying9 (Kd.C_below HR8.out hb)
  clear hb HB8 HR8 kc
  go_wp2
  go_ret
  exact ⟨rfl, HB9.out⟩

end Go.Proofs.Ytiaoehjldbnpkaa.PT

namespace Go.Proofs.Ytiaoehjldbnpkaa.PT
open Go.RowKit Go.Proofs.YtiaoehjldbnpkaaW.PrintWords Go.Proofs.YtiaoehjldbnpkaaW.PrintLast Go.Proofs.YtiaoehjldbnpkaaW.PrintMore
attribute [local go_sem] max2_int min2_int max_two min_two max_three min_three max_four min_four   -- for this text's walks alone
set_option linter.unusedVariables false
set_option linter.unusedSimpArgs false

/-! ### waggonerref02_step: function 38 -/
def waggonerref02_step.f (a0 : Int) : Option (Int) := if (Int.tmod a0 2) = 1 then (some (Go.bits .xor .u32 ((Int.tdiv a0 2) % 4294967296) 2197175160)) else (some ((Int.tdiv a0 2) % 4294967296))
set_option maxHeartbeats 8000000 in
set_option maxRecDepth 100000 in
theorem waggonerref02_step.calls (a0 : Int) (r : Int) (w : World) (h : waggonerref02_step.f a0 = some r) :
    Calls Try.prog 38 #[.int .u32 a0] w fun e w' => e = .returned (.int .u32 r) ∧ Drawn0 w w' := by
  have H : (if (Int.tmod a0 2) = 1 then (some (Go.bits .xor .u32 ((Int.tdiv a0 2) % 4294967296) 2197175160)) else (some ((Int.tdiv a0 2) % 4294967296))) = some r := h
  clear h
  by_cases c2 : (Int.tmod a0 2) = 1
  · rw [if_pos c2] at H
    have c2b0 : ((Int.tmod a0 2) == 1) = true := beq_iff_eq.mpr c2
    have c2b1 : ((Int.tmod a0 2) != 1) = false := bne_eq_false_iff_eq.mpr c2
    clear c2
    obtain rfl := Option.some.inj H
    go_enter Try.func38, Try.ntmps38
    go_wp2
    go_ret
    exact ⟨by first | rfl | (simp; done) | (simp [*]; done), by repeat (first | exact Drawn0.refl _ | apply Drawn0.step)⟩
  · rw [if_neg c2] at H
    have c2b0 : ((Int.tmod a0 2) == 1) = false := beq_eq_false_iff_ne.mpr c2
    have c2b1 : ((Int.tmod a0 2) != 1) = true := bne_iff_ne.mpr c2
    obtain rfl := Option.some.inj H
    go_enter Try.func38, Try.ntmps38
    go_wp2
    go_ret
    exact ⟨by first | rfl | (simp; done) | (simp [*]; done), by repeat (first | exact Drawn0.refl _ | apply Drawn0.step)⟩

end Go.Proofs.Ytiaoehjldbnpkaa.PT
