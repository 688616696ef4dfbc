/- Words and walks that this claim names, of those that the kit's print and programs of this workplace have printed. -/
import Derived.Test.YtohkmmbmfhficaaZTCz
import Derived.Test.YtohkmmbmfhficaaProg
import Derived.Below
import Derived.Deep.Draws
import Derived.Deep.AppendLies
import Derived.Maps.AppendAt
import Derived.OwnWalk
import Derived.Laws.BytesArg
import Derived.Laws.MakeOwn
import Derived.Laws.OwnMore
import Derived.Deep.OwnRows
import Derived.Tactics
import Derived.Lib.ConvBytes
import Derived.Laws.Slices
import Derived.WalkKit
import Derived.KernelRfl
import Derived.RowKit3
import Derived.Deep.LoopGhost
import Derived.Deep.QuietTactic
import Derived.BigQuiet
import Derived.WideLaws
import Derived.Deep.DeepCutAuto
import Derived.Deep.CutBlock
import Derived.Deep.RegionHeld3
import Derived.Laws.Rows
import Derived.Lib.AppendStr
import Derived.ArgAppend
import Derived.Laws.IdiomCopy
import Derived.OrdersHeld
import Derived.Laws.BitsLemmas
import Derived.RowKit
import Derived.Lib.SliceRun
import Derived.Test.YtohkmmbmfhficaaZTStr
import Derived.Test.YtohkmmbmfhficaaZTKd
import Derived.Deep.DeepMust
import Derived.Test.YtohkmmbmfhficaaZTLe
import Derived.Test.YtohkmmbmfhficaaZTCrc
import Derived.Test.YtohkmmbmfhficaaZTArr
import Derived.Test.YtohkmmbmfhficaaZTExts
import Derived.Test.YtohkmmbmfhficaaZTFrm
import Derived.Test.YtohkmmbmfhficaaZTForm
import Derived.Handy
import Derived.Test.YtohkmmbmfhficaaZTWLast
import Derived.Laws.RangeAny
import Derived.Lib.OthersKept
import Derived.Laws.BitsAllLaws
import Derived.Test.YtohkmmbmfhficaaZTStm
import Derived.Test.YtohkmmbmfhficaaZTStmm
import Derived.Test.YtohkmmbmfhficaaZTScope
import Derived.WalkMore
import Derived.Test.YtohkmmbmfhficaaZTStmf
import Derived.RangeFuncNested
import Derived.RangeFuncBound
import Derived.RangeFuncCalls
import Derived.RangeFuncLeaves
import Derived.OwnWalkIn
import Derived.TacticsInMore
import Derived.Test.YtohkmmbmfhficaaZTSplit
import Derived.Laws.EntriesVeiled
import Derived.Laws.Tables
import Derived.Laws.CopyOwn
import Derived.Laws.StandIn
import Derived.Laws.Runes
import Derived.Test.YtohkmmbmfhficaaZTWWords
import Derived.Test.YtohkmmbmfhficaaZTWTab
import Derived.Test.YtohkmmbmfhficaaZTWApart
import Derived.Test.YtohkmmbmfhficaaZTWFoot
import Derived.Test.YtohkmmbmfhficaaZTWKept
import Derived.Test.YtohkmmbmfhficaaZTWShare
import Derived.Test.YtohkmmbmfhficaaZTWN
import Derived.Test.YtohkmmbmfhficaaZTWRepsOne
import Derived.Test.YtohkmmbmfhficaaZTWGuard
import Derived.Test.YtohkmmbmfhficaaZTWMore
namespace Go.Proofs.Ytohkmmbmfhficaa.PT
open Go.Proofs.Ytohkmmbmfhficaa Go.RowKit Go.Proofs.YtohkmmbmfhficaaW.PrintWords Go.Proofs.YtohkmmbmfhficaaW.PrintLast Go.Proofs.YtohkmmbmfhficaaW.PrintMore
attribute [local go_sem] max2_int min2_int max_two min_two max_three min_three max_four min_four
set_option linter.unusedVariables false
set_option linter.unusedSimpArgs false
def errW : Option Int → Value
  | none => .nilIface
  | some c => .iface 0 (.int .i64 c)
theorem errW_none : errW none = .nilIface := rfl
theorem errW_some (c : Int) : errW (some c) = .iface 0 (.int .i64 c) := rfl
theorem info5 : (Try.prog.info? 5).map (fun i => (i.zero, i.size, i.bytes)) = some (some (.int .u8 0), 1, 1) := by kernel_rfl
theorem info36 : (Try.prog.info? 36).map (fun i => (i.zero, i.size, i.bytes)) = some (some (.agg #[(.int .i64 0), (.int .i64 0), (.int .i64 0), (.int .i64 0), (.slice none 0 0)]), 5, 56) := by kernel_rfl
theorem info68 : (Try.prog.info? 68).map (fun i => (i.zero, i.size, i.bytes)) = some (some (.int .u64 0), 1, 8) := by kernel_rfl
structure S36 where
  f0 : Int
  f1 : Int
  f2 : Int
  f3 : Int
  f4 : (List Int)
def z36 : S36 := ⟨(0 : Int), (0 : Int), (0 : Int), (0 : Int), ([] : List Int)⟩
def k36 : Kd S36 := Kd.iso (Kd.pair (Kd.int .i64) (Kd.pair (Kd.int .i64) (Kd.pair (Kd.int .i64) (Kd.pair (Kd.int .i64) (Kd.slice 5 (Kd.int .u8)))))) (fun x : S36 => (x.f0, x.f1, x.f2, x.f3, x.f4))
theorem k36_open {w : World} {x : S36} {cs : List Value} (h : k36.K w x cs) : ∃ A4 c4, cs = [.int .i64 x.f0, .int .i64 x.f1, .int .i64 x.f2, .int .i64 x.f3, .slice A4 x.f4.length c4] ∧ x.f4.length ≤ c4 ∧ (Kd.int .u8).C w A4 x.f4.length x.f4 := by
  obtain ⟨_, _, rfl, rfl, ⟨_, _, rfl, rfl, ⟨_, _, rfl, rfl, ⟨_, _, rfl, rfl, ⟨A4, c4, rfl, l4, g4⟩⟩⟩⟩⟩ := h
  exact ⟨A4, c4, rfl, l4, g4⟩
theorem k36_openM {w : World} {base : Nat} {ok : Nat → Prop} {x : S36} {cs : List Value} (h : k36.M w base ok x cs) : ∃ v4, cs = [.int .i64 x.f0, .int .i64 x.f1, .int .i64 x.f2, .int .i64 x.f3, v4] ∧ (Kd.int .u8).R 5 w base ok v4 x.f4 := by
  obtain ⟨_, _, rfl, rfl, ⟨_, _, rfl, rfl, ⟨_, _, rfl, rfl, ⟨_, _, rfl, rfl, ⟨v4, rfl, g4⟩⟩⟩⟩⟩ := h
  exact ⟨v4, rfl, g4⟩
theorem k36_mk (w : World) (x : S36) {A4 : Option Addr} {c4 : Nat} (l4 : x.f4.length ≤ c4) (g4 : (Kd.int .u8).C w A4 x.f4.length x.f4) : k36.K w x [.int .i64 x.f0, .int .i64 x.f1, .int .i64 x.f2, .int .i64 x.f3, .slice A4 x.f4.length c4] := ⟨[.int .i64 x.f0], [.int .i64 x.f1, .int .i64 x.f2, .int .i64 x.f3, .slice A4 x.f4.length c4], rfl, rfl, ⟨[.int .i64 x.f1], [.int .i64 x.f2, .int .i64 x.f3, .slice A4 x.f4.length c4], rfl, rfl, ⟨[.int .i64 x.f2], [.int .i64 x.f3, .slice A4 x.f4.length c4], rfl, rfl, ⟨[.int .i64 x.f3], [.slice A4 x.f4.length c4], rfl, rfl, ⟨A4, c4, rfl, l4, g4⟩⟩⟩⟩⟩
theorem k36_mkM (w : World) (base : Nat) (ok : Nat → Prop) (x : S36) {v4 : Value} (g4 : (Kd.int .u8).R 5 w base ok v4 x.f4) : k36.M w base ok x [.int .i64 x.f0, .int .i64 x.f1, .int .i64 x.f2, .int .i64 x.f3, v4] := ⟨[.int .i64 x.f0], [.int .i64 x.f1, .int .i64 x.f2, .int .i64 x.f3, v4], rfl, rfl, ⟨[.int .i64 x.f1], [.int .i64 x.f2, .int .i64 x.f3, v4], rfl, rfl, ⟨[.int .i64 x.f2], [.int .i64 x.f3, v4], rfl, rfl, ⟨[.int .i64 x.f3], [v4], rfl, rfl, ⟨v4, rfl, g4⟩⟩⟩⟩⟩
def rd_T36 (xs : List S36) (i : Int) : S36 := xs.getD i.toNat z36
theorem at_T36 {w : World} {A : Option Addr} {n : Nat} {xs : List S36} (h : Kd.C k36 w A n xs) (i : Int) (h0 : 0 ≤ i) (h1 : i < n) : ∃ ad A4 c4, A = some ad ∧ w.cell? (ad.add (i.toNat * 5)) = some (.int .i64 (rd_T36 xs i).f0) ∧ w.cell? ⟨(ad.add (i.toNat * 5)).block, (ad.add (i.toNat * 5)).off + 1, none⟩ = some (.int .i64 (rd_T36 xs i).f1) ∧ w.cell? ⟨(ad.add (i.toNat * 5)).block, (ad.add (i.toNat * 5)).off + 2, none⟩ = some (.int .i64 (rd_T36 xs i).f2) ∧ w.cell? ⟨(ad.add (i.toNat * 5)).block, (ad.add (i.toNat * 5)).off + 3, none⟩ = some (.int .i64 (rd_T36 xs i).f3) ∧ w.cell? ⟨(ad.add (i.toNat * 5)).block, (ad.add (i.toNat * 5)).off + 4, none⟩ = some (.slice A4 (rd_T36 xs i).f4.length c4) ∧ (rd_T36 xs i).f4.length ≤ c4 ∧ (Kd.int .u8).C w A4 (rd_T36 xs i).f4.length (rd_T36 xs i).f4 := by
  obtain ⟨ad, c, e, _, hK, hc0⟩ := Kd.C_get h z36 i h0 h1
  have hc : ∀ j u, c[j]? = some u → w.cell? (ad.add (i.toNat * 5 + j)) = some u := hc0
  obtain ⟨A4, c4, rfl, l4, g4⟩ := k36_open hK
  exact ⟨ad, A4, c4, e, hc 0 _ rfl, by rw [← add_field _ _ 1 (by omega)]; exact hc 1 _ rfl, by rw [← add_field _ _ 2 (by omega)]; exact hc 2 _ rfl, by rw [← add_field _ _ 3 (by omega)]; exact hc 3 _ rfl, by rw [← add_field _ _ 4 (by omega)]; exact hc 4 _ rfl, l4, g4⟩
structure S38 where
  f0 : Int
  f1 : Int
  f2 : Int
  f3 : (List Int)
  f4 : Int
  f5 : Int
  f6 : Int
structure S24 where
  f0 : Int
  f1 : Int
  f2 : Int
  f3 : (List S36)
def toE (s : S36) : Pl.Ext := (s.f0, s.f1, s.f2, s.f3, s.f4)
def ofE (e : Pl.Ext) : S36 := ⟨e.1, e.2.1, e.2.2.1, e.2.2.2.1, e.2.2.2.2⟩
theorem map_toE_ofE (l : List Pl.Ext) : (l.map ofE).map toE = l := by
  rw [List.map_map]
  exact List.map_id l
theorem map_ofE_toE (l : List S36) : (l.map toE).map ofE = l := by
  rw [List.map_map]
  exact List.map_id l
theorem rd_getE (l : List S36) (i : Nat) (h : i < l.length) : rd_T36 l (i : Int) = l[i] := by
  unfold rd_T36
  rw [Int.toNat_natCast, List.getD_eq_getElem?_getD, List.getElem?_eq_getElem h, Option.getD_some]
end Go.Proofs.Ytohkmmbmfhficaa.PT
namespace Go.Proofs.Ytohkmmbmfhficaa.PT
open Go.Proofs.Ytohkmmbmfhficaa Go.RowKit Go.Proofs.YtohkmmbmfhficaaW.PrintWords Go.Proofs.YtohkmmbmfhficaaW.PrintLast Go.Proofs.YtohkmmbmfhficaaW.PrintMore
attribute [local go_sem] max2_int min2_int max_two min_two max_three min_three max_four min_four
set_option linter.unusedVariables false
set_option linter.unusedSimpArgs false
def extent_within.f (a0 : Int) (a1 : Int) (a2 : Int) : Option (Bool) := if a0 ≥ a1 then (some (decide (a0 ≤ a2))) else (some false)
set_option maxHeartbeats 8000000 in
set_option maxRecDepth 100000 in
theorem extent_within.calls (a0 : Int) (a1 : Int) (a2 : Int) (r : Bool) (w : World) (h : extent_within.f a0 a1 a2 = some r) :
  Calls Try.prog 77 #[.int .i64 a0, .int .i64 a1, .int .i64 a2] w fun e w' => e = .returned (.bool r) ∧ Drawn0 w w' := by
 have H : (if a0 ≥ a1 then (some (decide (a0 ≤ a2))) else (some false)) = some r := h
 clear h
 by_cases c4 : a0 ≥ a1
 focus
  rw [if_pos c4] at H
  have c4b0 : decide (a1 ≤ a0) = true := decide_eq_true c4
 rotate_left
 focus
  rw [if_neg c4] at H
  have c4b0 : decide (a1 ≤ a0) = false := decide_eq_false c4
 rotate_left
 all_goals
  clear c4
  obtain rfl := Option.some.inj H
  go_enter Try.func77, Try.ntmps77
  go_wp2
  go_ret
  exact ⟨by first | rfl | (simp; done) | (simp [*]; done), by repeat (first | exact Drawn0.refl _ | apply Drawn0.step)⟩
def extent_data.f (a0_0 : Int) (a0_1 : Int) (a0_2 : Int) (a0_3 : Int) (l0_4 : List Int) : Option (Int) := if a0_2 = 2 then (some (wrap64 (a0_1 * 32))) else (some 0)
set_option maxHeartbeats 8000000 in
set_option maxRecDepth 100000 in
theorem extent_data.calls (a0_0 : Int) (a0_1 : Int) (a0_2 : Int) (a0_3 : Int) (A0_4 : Option Addr) (c0_4 : Nat) (l0_4 : List Int) (r : Int) (w : World) (hr0_4 : Kd.C (Kd.int .u8) w A0_4 l0_4.length l0_4) (hc0_4 : l0_4.length ≤ c0_4) (h : extent_data.f a0_0 a0_1 a0_2 a0_3 l0_4 = some r) :
  Calls Try.prog 78 #[.agg #[.int .i64 a0_0, .int .i64 a0_1, .int .i64 a0_2, .int .i64 a0_3, .slice A0_4 l0_4.length c0_4]] w fun e w' => e = .returned (.int .i64 r) ∧ Below w.heap.size w w' := by
 have hu0 := Try.underlying36
 have HR0_4 := Aside0.mk hr0_4
 have HC0_4 := Aside0.mk hc0_4
 clear hr0_4 hc0_4
 have HB := Aside0.mk (Below.refl w.heap.size w)
 have H : (if a0_2 = 2 then (some (wrap64 (a0_1 * 32))) else (some 0)) = some r := h
 clear h
 by_cases c2 : a0_2 = 2
 focus
  rw [if_pos c2] at H
  have c2b0 : (a0_2 == 2) = true := beq_iff_eq.mpr c2
  have c2b1 : (a0_2 != 2) = false := bne_eq_false_iff_eq.mpr c2
  clear c2
 rotate_left
 focus
  rw [if_neg c2] at H
  have c2b0 : (a0_2 == 2) = false := beq_eq_false_iff_ne.mpr c2
  have c2b1 : (a0_2 != 2) = true := bne_iff_ne.mpr c2
 rotate_left
 all_goals
  obtain rfl := Option.some.inj H
  go_enter Try.func78, Try.ntmps78
 focus go_wp2_with (first | ((with_reducible refine gate_dst (N := 1) rfl ?_); refine Cz.bx (N := 1) #[.int .i64 a0_0, .int .i64 a0_1, .int .i64 a0_2, .int .i64 a0_3, .slice A0_4 l0_4.length c0_4] 36 ?_; intro gb0 hg w3 hbox hb; have BK0 := Aside0.mk (hbox); have GW0 := Aside0.mk ((Cz.gs hg : w.heap.size ≤ gb0)); have GE0 := GW0; replace HB := Cz.bs (w := w) hb; clear hb hbox hg; obtain ⟨z0_0, z0_1, z0_2, z0_3, z0_4, y0_0, y0_1, y0_2, y0_3, y0_4⟩ := Cz.d5 BK0))
 rotate_left
 focus go_wp2_with (first | ((with_reducible refine gate_dst (N := 1) rfl ?_); refine Cz.bx (N := 1) #[.int .i64 a0_0, .int .i64 a0_1, .int .i64 a0_2, .int .i64 a0_3, .slice A0_4 l0_4.length c0_4] 36 ?_; intro gb0 hg w5 hbox hb; have BK0 := Aside0.mk (hbox); have GW0 := Aside0.mk ((Cz.gs hg : w.heap.size ≤ gb0)); have GE0 := GW0; replace HB := Cz.bs (w := w) hb; clear hb hbox hg; obtain ⟨z0_0, z0_1, z0_2, z0_3, z0_4, y0_0, y0_1, y0_2, y0_3, y0_4⟩ := Cz.d5 BK0))
 rotate_left
 all_goals
  go_ret
  exact ⟨Cz.er, Cz.bl (w := w)⟩
def extent_Check_p.f (a0_0 : Int) (a0_1 : Int) (a0_2 : Int) (a0_3 : Int) (l0_4 : List Int) : Option (Bool) := (extent_within.f a0_0 0 64).bind fun t103 => (if t103 = true then ((extent_within.f a0_1 1 (wrap64 (64 - a0_0))).bind fun t104 => (if t104 = true then ((extent_within.f a0_2 0 2).bind fun t105 => (if t105 = true then ((extent_within.f a0_3 0 2147483647).bind fun t106 => (if t106 = true then ((extent_data.f a0_0 a0_1 a0_2 a0_3 l0_4).bind fun t107 => (some ((l0_4.length : Int) == t107))) else (some false))) else (some false))) else (some false))) else (some false))
def extent_Check_p.T1 : Bool × List (List Nat × List Nat) := (true, [([], []), ([0], [0]), ([1], [1]), ([2, 2], [2]), ([3], [3]), ([4, 3], [3, 4]), ([3], [3]), ([6, 3], [3, 6]), ([7, 3], [3, 7]), ([5, 8, 3, 3], [3, 5, 8]), ([3, 9], [3, 9]), ([10, 9], [10]), ([11], [11]), ([12, 11], [11, 12]), ([13, 11, 11], [11, 13]), ([11, 14], [11, 14]), ([15, 14], [15]), ([16], [16]), ([17, 16], [16, 17]), ([18, 16, 16], [16, 18]), ([16, 19], [16, 19]), ([20, 19], [20]), ([21], [21]), ([22, 21], [21, 22]), ([23, 21], [21, 23]), ([21], [21]), ([25, 21, 21], [21, 25]), ([24, 26, 21], [21, 24, 26]), ([21, 27], [21, 27]), ([28, 26, 0, 1, 2, 3, 4, 5, 6, 7, 8, 9, 10, 11, 12, 13, 14, 15, 16, 17, 18, 19, 20, 21, 22, 23, 24, 25, 26, 27, 28], [28])])
def extent_Check_p.B1 : List Nat := [0, 1, 3, 7, 15, 31, 15, 79, 207, 511, 1023, 2047, 4095, 8191, 16383, 32767, 65535, 131071, 262143, 524287, 1048575, 2097151, 4194303, 8388607, 16777215, 4194303, 37748735, 134217727, 268435455, 536870911]
theorem extent_Check_p.tab1 : rtab .any (opsOf Try.f55 1) = extent_Check_p.T1 := by kernel_rfl
theorem extent_Check_p.bits1 : waitsOk extent_Check_p.T1.2 extent_Check_p.B1 = true := by kernel_rfl
set_option maxHeartbeats 8000000 in
set_option maxRecDepth 100000 in
theorem extent_Check_p.calls (a0_0 : Int) (a0_1 : Int) (a0_2 : Int) (a0_3 : Int) (A0_4 : Option Addr) (c0_4 : Nat) (l0_4 : List Int) (r : Bool) (w : World) (hr0_4 : Kd.C (Kd.int .u8) w A0_4 l0_4.length l0_4) (hc0_4 : l0_4.length ≤ c0_4) (h : extent_Check_p.f a0_0 a0_1 a0_2 a0_3 l0_4 = some r) :
  Calls Try.prog 55 #[.agg #[.int .i64 a0_0, .int .i64 a0_1, .int .i64 a0_2, .int .i64 a0_3, .slice A0_4 l0_4.length c0_4]] w fun e w' => e = .returned (.bool r) ∧ Below w.heap.size w w' := by
 have hu0 := Try.underlying36
 have HR0_4 := Aside0.mk hr0_4
 have HC0_4 := Aside0.mk hc0_4
 clear hr0_4 hc0_4
 have HB := Aside0.mk (Below.refl w.heap.size w)
 have H : ((extent_within.f a0_0 0 64).bind fun t0 => (if t0 = true then ((extent_within.f a0_1 1 (wrap64 (64 - a0_0))).bind fun t1 => (if t1 = true then ((extent_within.f a0_2 0 2).bind fun t105 => (if t105 = true then ((extent_within.f a0_3 0 2147483647).bind fun t2 => (if t2 = true then ((extent_data.f a0_0 a0_1 a0_2 a0_3 l0_4).bind fun t107 => (some ((l0_4.length : Int) == t107))) else (some false))) else (some false))) else (some false))) else (some false))) = some r := h
 clear h
 replace H := Option.bind_eq_some_iff.mp H
 obtain ⟨t0, A1, H⟩ := H
 (try dsimp only at H)
 have A2 := Aside0.mk A1
 clear A1
 by_cases c3 : t0 = true
 focus
  subst c3
  rw [if_pos rfl] at H
  replace H := Option.bind_eq_some_iff.mp H
  obtain ⟨t1, A3, H⟩ := H
  (try dsimp only at H)
  have A4 := Aside0.mk A3
  clear A3
  by_cases c5 : t1 = true
  focus
   subst c5
   rw [if_pos rfl] at H
   replace H := Option.bind_eq_some_iff.mp H
   obtain ⟨t105, A5, H⟩ := H
   (try dsimp only at H)
   have A6 := Aside0.mk A5
   clear A5
   by_cases c7 : t105 = true
   focus
    subst c7
    rw [if_pos rfl] at H
    replace H := Option.bind_eq_some_iff.mp H
    obtain ⟨t2, A7, H⟩ := H
    (try dsimp only at H)
    have A8 := Aside0.mk A7
    clear A7
    by_cases c9 : t2 = true
   rotate_left 3
  rotate_left 4
 rotate_left 5
 focus
  subst c9
  rw [if_pos rfl] at H
  replace H := Option.bind_eq_some_iff.mp H
  obtain ⟨t107, A9, H⟩ := H
  (try dsimp only at H)
  have A10 := Aside0.mk A9
  clear A9
 rotate_left
 focus
  replace c9 := Bool.eq_false_iff.mpr c9
  subst c9
  rw [if_neg (show ¬ (false = true) by decide)] at H
 rotate_left
 focus
  replace c7 := Bool.eq_false_iff.mpr c7
  subst c7
  rw [if_neg (show ¬ (false = true) by decide)] at H
 rotate_left
 focus
  replace c5 := Bool.eq_false_iff.mpr c5
  subst c5
  rw [if_neg (show ¬ (false = true) by decide)] at H
 rotate_left
 focus
  replace c3 := Bool.eq_false_iff.mpr c3
  subst c3
  rw [if_neg (show ¬ (false = true) by decide)] at H
 rotate_left
 all_goals
  obtain rfl := Option.some.inj H
  go_enter Try.func55, Try.ntmps55
 iterate 2
  focus try go_wp2_with (first | ((with_reducible refine gate_dst (N := 1) rfl ?_); (try (refine gate_guard (by rfl) ?_; dsimp only)); refine Cz.bx (N := 1) #[.int .i64 a0_0, .int .i64 a0_1, .int .i64 a0_2, .int .i64 a0_3, .slice A0_4 l0_4.length c0_4] 36 ?_; intro gb0 hg w0 hbox hb; have BK0 := Aside0.mk (hbox); have GW0 := Aside0.mk ((Cz.gs hg : w.heap.size ≤ gb0)); have GE0 := GW0; replace HB := Cz.bs (w := w) hb; clear hb hbox hg))
  rotate_left
 focus try go_wp2_with (first | ((with_reducible refine gate_dst (N := 1) rfl ?_); (try (refine gate_guard (by rfl) ?_; dsimp only)); refine Cz.bx (N := 1) #[.int .i64 a0_0, .int .i64 a0_1, .int .i64 a0_2, .int .i64 a0_3, .slice A0_4 l0_4.length c0_4] 36 ?_; intro gb0 hg w16 hbox hb; have BK0 := Aside0.mk (hbox); have GW0 := Aside0.mk ((Cz.gs hg : w.heap.size ≤ gb0)); have GE0 := GW0; replace HB := Cz.bs (w := w) hb; clear hb hbox hg))
 rotate_left
 iterate 2
  focus try go_wp2_with (first | ((with_reducible refine gate_dst (N := 1) rfl ?_); (try (refine gate_guard (by rfl) ?_; dsimp only)); refine Cz.bx (N := 1) #[.int .i64 a0_0, .int .i64 a0_1, .int .i64 a0_2, .int .i64 a0_3, .slice A0_4 l0_4.length c0_4] 36 ?_; intro gb0 hg w0 hbox hb; have BK0 := Aside0.mk (hbox); have GW0 := Aside0.mk ((Cz.gs hg : w.heap.size ≤ gb0)); have GE0 := GW0; replace HB := Cz.bs (w := w) hb; clear hb hbox hg))
  rotate_left
 all_goals
  replace BK0 := Aside0.mk (blk_drew BK0.out)
  replace HB := Aside0.mk (below_drew1 HB.out)
  refine Cz.s5 (n := 30) (ds := []) BK0 (fun hHeld => ?_); refine with_tabW extent_Check_p.tab1 extent_Check_p.bits1 (fun HT_ HW_ => ?_)
 iterate 2
  focus generalize w0.drew = w1 at BK0 HB hHeld ⊢
  rotate_left
 focus generalize w16.drew = w0 at BK0 HB hHeld ⊢
 rotate_left
 iterate 2
  focus generalize w0.drew = w1 at BK0 HB hHeld ⊢
  rotate_left
 all_goals
  refine Cz.qP 0 3 HT_ ?_
  refine Cz.qT 1 4 HT_ HW_ hHeld ?_
  refine Cz.qO (N := some 5) 2 HT_ (fun K hK => ?_)
  refine Cz.gO Try.func77 #[.int .i64 a0_0, .int .i64 0, .int .i64 64] ?_
 iterate 4
  focus with_reducible refine (extent_within.calls a0_0 0 64 true _ A2.out).mono ?_
  rotate_left
 focus with_reducible refine (extent_within.calls a0_0 0 64 false _ A2.out).mono ?_
 rotate_left
 all_goals
  rintro e w' ⟨rfl, ⟨nd, rfl⟩⟩
  refine ⟨_, rfl, ?_⟩
  refine hK.out _ _ ⟨(blk_cell BK0.out 0).trans rfl, (blk_cell BK0.out 1).trans rfl, (blk_cell BK0.out 2).trans rfl, (blk_cell BK0.out 3).trans rfl, (blk_cell BK0.out 4).trans rfl⟩ (fun hHeld => ?_)
  clear hK K
  refine Cz.nm (some 5) ?_
  refine Cz.qP 3 6 HT_ ?_
 iterate 3
  focus
   refine Cz.qP 4 7 HT_ ?_
   refine Cz.qP 6 9 HT_ ?_
   refine Cz.qT 5 8 HT_ HW_ hHeld ?_
   refine Cz.qT 7 10 HT_ HW_ hHeld ?_
   refine Cz.qP 8 11 HT_ ?_
   refine Cz.qO (N := some 12) 9 HT_ (fun K hK => ?_)
   refine Cz.gO Try.func77 #[.int .i64 a0_1, .int .i64 1, .int .i64 (wrap64 (64 - a0_0))] ?_
   with_reducible refine (extent_within.calls a0_1 1 (wrap64 (64 - a0_0)) true _ A4.out).mono ?_
   rintro e w' ⟨rfl, ⟨nd, rfl⟩⟩
   refine ⟨_, rfl, ?_⟩
   refine hK.out _ _ ⟨(blk_cell BK0.out 0).trans rfl, (blk_cell BK0.out 1).trans rfl, (blk_cell BK0.out 2).trans rfl, (blk_cell BK0.out 3).trans rfl, (blk_cell BK0.out 4).trans rfl⟩ (fun hHeld => ?_)
   clear hK K
   refine Cz.nm (some 12) ?_
  rotate_left
 focus
  refine Cz.qP 4 7 HT_ ?_
  refine Cz.qP 6 9 HT_ ?_
  refine Cz.qT 5 8 HT_ HW_ hHeld ?_
  refine Cz.qT 7 10 HT_ HW_ hHeld ?_
  refine Cz.qP 8 11 HT_ ?_
  refine Cz.qO (N := some 12) 9 HT_ (fun K hK => ?_)
  refine Cz.gO Try.func77 #[.int .i64 a0_1, .int .i64 1, .int .i64 (wrap64 (64 - a0_0))] ?_
  with_reducible refine (extent_within.calls a0_1 1 (wrap64 (64 - a0_0)) false _ A4.out).mono ?_
  rintro e w' ⟨rfl, ⟨nd, rfl⟩⟩
  refine ⟨_, rfl, ?_⟩
  refine hK.out _ _ ⟨(blk_cell BK0.out 0).trans rfl, (blk_cell BK0.out 1).trans rfl, (blk_cell BK0.out 2).trans rfl, (blk_cell BK0.out 3).trans rfl, (blk_cell BK0.out 4).trans rfl⟩ (fun hHeld => ?_)
  clear hK K
  refine Cz.nm (some 12) ?_
 rotate_left
 focus
  refine Cz.qU 4 7 HT_ ?_
  refine Cz.qU 5 8 HT_ ?_
  refine Cz.qU 6 9 HT_ ?_
  refine Cz.qU 7 10 HT_ ?_
  refine Cz.qU 8 11 HT_ ?_
  refine Cz.qU 9 12 HT_ ?_
 rotate_left
 all_goals
  refine Cz.qP 10 13 HT_ ?_
  refine Cz.qP 11 14 HT_ ?_
 iterate 2
  focus
   refine Cz.qP 12 15 HT_ ?_
   refine Cz.qT 13 16 HT_ HW_ hHeld ?_
   refine Cz.qO (N := some 17) 14 HT_ (fun K hK => ?_)
   refine Cz.gO Try.func77 #[.int .i64 a0_2, .int .i64 0, .int .i64 2] ?_
   with_reducible refine (extent_within.calls a0_2 0 2 true _ A6.out).mono ?_
   rintro e w' ⟨rfl, ⟨nd, rfl⟩⟩
   refine ⟨_, rfl, ?_⟩
   refine hK.out _ _ ⟨(blk_cell BK0.out 0).trans rfl, (blk_cell BK0.out 1).trans rfl, (blk_cell BK0.out 2).trans rfl, (blk_cell BK0.out 3).trans rfl, (blk_cell BK0.out 4).trans rfl⟩ (fun hHeld => ?_)
   clear hK K
   refine Cz.nm (some 17) ?_
  rotate_left
 focus
  refine Cz.qP 12 15 HT_ ?_
  refine Cz.qT 13 16 HT_ HW_ hHeld ?_
  refine Cz.qO (N := some 17) 14 HT_ (fun K hK => ?_)
  refine Cz.gO Try.func77 #[.int .i64 a0_2, .int .i64 0, .int .i64 2] ?_
  with_reducible refine (extent_within.calls a0_2 0 2 false _ A6.out).mono ?_
  rintro e w' ⟨rfl, ⟨nd, rfl⟩⟩
  refine ⟨_, rfl, ?_⟩
  refine hK.out _ _ ⟨(blk_cell BK0.out 0).trans rfl, (blk_cell BK0.out 1).trans rfl, (blk_cell BK0.out 2).trans rfl, (blk_cell BK0.out 3).trans rfl, (blk_cell BK0.out 4).trans rfl⟩ (fun hHeld => ?_)
  clear hK K
  refine Cz.nm (some 17) ?_
 rotate_left
 iterate 2
  focus
   refine Cz.qU 12 15 HT_ ?_
   refine Cz.qU 13 16 HT_ ?_
   refine Cz.qU 14 17 HT_ ?_
  rotate_left
 all_goals
  refine Cz.qP 15 18 HT_ ?_
  refine Cz.qP 16 19 HT_ ?_
 focus
  refine Cz.qP 17 20 HT_ ?_
  refine Cz.qT 18 21 HT_ HW_ hHeld ?_
  refine Cz.qO (N := some 22) 19 HT_ (fun K hK => ?_)
  refine Cz.gO Try.func77 #[.int .i64 a0_3, .int .i64 0, .int .i64 2147483647] ?_
  with_reducible refine (extent_within.calls a0_3 0 2147483647 true _ A8.out).mono ?_
  rintro e w' ⟨rfl, ⟨nd, rfl⟩⟩
  refine ⟨_, rfl, ?_⟩
  refine hK.out _ _ ⟨(blk_cell BK0.out 0).trans rfl, (blk_cell BK0.out 1).trans rfl, (blk_cell BK0.out 2).trans rfl, (blk_cell BK0.out 3).trans rfl, (blk_cell BK0.out 4).trans rfl⟩ (fun hHeld => ?_)
  clear hK K
  refine Cz.nm (some 22) ?_
 rotate_left
 focus
  refine Cz.qP 17 20 HT_ ?_
  refine Cz.qT 18 21 HT_ HW_ hHeld ?_
  refine Cz.qO (N := some 22) 19 HT_ (fun K hK => ?_)
  refine Cz.gO Try.func77 #[.int .i64 a0_3, .int .i64 0, .int .i64 2147483647] ?_
  with_reducible refine (extent_within.calls a0_3 0 2147483647 false _ A8.out).mono ?_
  rintro e w' ⟨rfl, ⟨nd, rfl⟩⟩
  refine ⟨_, rfl, ?_⟩
  refine hK.out _ _ ⟨(blk_cell BK0.out 0).trans rfl, (blk_cell BK0.out 1).trans rfl, (blk_cell BK0.out 2).trans rfl, (blk_cell BK0.out 3).trans rfl, (blk_cell BK0.out 4).trans rfl⟩ (fun hHeld => ?_)
  clear hK K
  refine Cz.nm (some 22) ?_
 rotate_left
 iterate 3
  focus
   refine Cz.qU 17 20 HT_ ?_
   refine Cz.qU 18 21 HT_ ?_
   refine Cz.qU 19 22 HT_ ?_
  rotate_left
 all_goals
  refine Cz.qP 20 23 HT_ ?_
  refine Cz.qP 21 24 HT_ ?_
 focus
  refine Cz.qP 22 25 HT_ ?_
  refine Cz.qT 23 26 HT_ HW_ hHeld ?_
  refine Cz.qP 24 27 HT_ ?_
  refine Cz.qT 25 28 HT_ HW_ hHeld ?_
  refine Cz.qO (N := some 29) 26 HT_ (fun K hK => ?_)
  refine Cz.gO Try.func78 #[.agg #[.int .i64 a0_0, .int .i64 a0_1, .int .i64 a0_2, .int .i64 a0_3, .slice A0_4 l0_4.length c0_4]] ?_
  with_reducible refine (extent_data.calls a0_0 a0_1 a0_2 a0_3 _ _ l0_4 t107 _ ?side0 ?side1 A10.out).mono ?_
  (case side0 => repeat (first | exact (Kd.C_below HR0_4.out (Cz.bl (w := w))) | (with_reducible refine Kd.C_alloc ?_ _) | (with_reducible refine Kd.C_drewN ?_ _) | (with_reducible refine Kd.C_drew ?_)))
  (case side1 => exact HC0_4.out)
  rintro e w2 ⟨rfl, hb⟩
  refine ⟨_, rfl, ?_⟩
  replace BK0 := Cz.bk BK0 hb
  replace HB := Cz.bs (w := w) hb
  (try clear hb)
  (try clear hb2)
  (try clear hk)
  (try clear hi)
  refine hK.out _ _ ⟨(blk_cell BK0.out 0).trans rfl, (blk_cell BK0.out 1).trans rfl, (blk_cell BK0.out 2).trans rfl, (blk_cell BK0.out 3).trans rfl, (blk_cell BK0.out 4).trans rfl⟩ (fun hHeld => ?_)
  clear hK K
  refine Cz.nm (some 29) ?_
  refine Cz.qP 27 30 HT_ ?_
 rotate_left
 iterate 4
  focus
   refine Cz.qU 22 25 HT_ ?_
   refine Cz.qU 23 26 HT_ ?_
   refine Cz.qU 24 27 HT_ ?_
   refine Cz.qU 25 28 HT_ ?_
   refine Cz.qU 26 29 HT_ ?_
   refine Cz.qU 27 30 HT_ ?_
  rotate_left
 all_goals
  refine Cz.qP 28 31 HT_ ?_
  refine Cz.qP 29 2 HT_ ?_
  refine done_ (done_of HT_.out (by kernel_rfl)) ?_
  try go_wp2
  go_ret
  exact ⟨Cz.er, Cz.bl (w := w)⟩
def extent_Check.f (a0_0 a0_1 a0_2 a0_3 : Int) (l0_4 : List Int) : Option Bool := some (Pl.extOk a0_0 a0_1 a0_2 a0_3 l0_4)
theorem extent_Check.tells_p (a0_0 a0_1 a0_2 a0_3 : Int) (l0_4 : List Int) : extent_Check_p.f a0_0 a0_1 a0_2 a0_3 l0_4 = some (Pl.extOk a0_0 a0_1 a0_2 a0_3 l0_4) := by
 unfold extent_Check_p.f extent_within.f extent_data.f Pl.extOk
 by_cases h0 : a0_0 ≥ 0
 rotate_left
 ·rw [if_neg h0, Option.bind_some, if_neg (by decide), decide_eq_false (by omega)]
 rw [if_pos h0, Option.bind_some]
 by_cases h1 : a0_0 ≤ 64
 rotate_left
 ·rw [decide_eq_false h1, if_neg (by decide), decide_eq_false (by omega)]
 rw [decide_eq_true h1, if_pos rfl]
 have hw : wrap64 (64 - a0_0) = 64 - a0_0 := by unfold wrap64; omega
 rw [hw]
 by_cases h2 : a0_1 ≥ 1
 rotate_left
 ·rw [if_neg h2, Option.bind_some, if_neg (by decide), decide_eq_false (by omega)]
 rw [if_pos h2, Option.bind_some]
 by_cases h3 : a0_1 ≤ 64 - a0_0
 rotate_left
 ·rw [decide_eq_false h3, if_neg (by decide), decide_eq_false (by omega)]
 rw [decide_eq_true h3, if_pos rfl]
 by_cases h4 : a0_2 ≥ 0
 rotate_left
 ·rw [if_neg h4, Option.bind_some, if_neg (by decide), decide_eq_false (by omega)]
 rw [if_pos h4, Option.bind_some]
 by_cases h5 : a0_2 ≤ 2
 rotate_left
 ·rw [decide_eq_false h5, if_neg (by decide), decide_eq_false (by omega)]
 rw [decide_eq_true h5, if_pos rfl]
 by_cases h6 : a0_3 ≥ 0
 ·rw [if_pos h6, Option.bind_some]
  by_cases h7 : a0_3 ≤ 2147483647
  ·rw [decide_eq_true h7, if_pos rfl]
   have hw2 : wrap64 (a0_1 * 32) = a0_1 * 32 := by unfold wrap64; omega
   rw [hw2]
   have e : (if a0_2 = 2 then some (a0_1 * 32) else some 0) = some (if a0_2 = 2 then a0_1 * 32 else 0) := by split <;> rfl
   rw [e, Option.bind_some, Option.some.injEq, Bool.eq_iff_iff, beq_iff_eq, decide_eq_true_eq]
   constructor
   ·intro h; exact ⟨h0, h1, h2, h3, h4, h5, h6, h7, h⟩
   ·intro h; exact h.2.2.2.2.2.2.2.2
  rw [decide_eq_false h7, if_neg (by decide), decide_eq_false (by omega)]
 rw [if_neg h6, Option.bind_some, if_neg (by decide), decide_eq_false (by omega)]
theorem extent_Check.tells (a0_0 a0_1 a0_2 a0_3 : Int) (l0_4 : List Int) : extent_Check.f a0_0 a0_1 a0_2 a0_3 l0_4 = some (Pl.extOk a0_0 a0_1 a0_2 a0_3 l0_4) := rfl
theorem extent_Check.closes {a0_0 a0_1 a0_2 a0_3 : Int} {l0_4 : List Int} {r : Bool} (h : extent_Check.f a0_0 a0_1 a0_2 a0_3 l0_4 = some r) : extent_Check_p.f a0_0 a0_1 a0_2 a0_3 l0_4 = some r := (extent_Check.tells_p a0_0 a0_1 a0_2 a0_3 l0_4).trans h
theorem extent_Check.calls (a0_0 : Int) (a0_1 : Int) (a0_2 : Int) (a0_3 : Int) (A0_4 : Option Addr) (c0_4 : Nat) (l0_4 : List Int) (r : Bool) (w : World) (hr0_4 : Kd.C (Kd.int .u8) w A0_4 l0_4.length l0_4) (hc0_4 : l0_4.length ≤ c0_4) (h : extent_Check.f a0_0 a0_1 a0_2 a0_3 l0_4 = some r) :
  Calls Try.prog 55 #[.agg #[.int .i64 a0_0, .int .i64 a0_1, .int .i64 a0_2, .int .i64 a0_3, .slice A0_4 l0_4.length c0_4]] w fun e w' => e = .returned (.bool r) ∧ Below w.heap.size w w' :=
 extent_Check_p.calls a0_0 a0_1 a0_2 a0_3 A0_4 c0_4 l0_4 r w hr0_4 hc0_4 (extent_Check.closes h)
def bytes_Clone.f (l0 : List Int) : Option (List Int) := if l0.length < 140737488355328 then some l0 else none
set_option maxHeartbeats 1000000 in
theorem bytes_Clone.calls (A0 : Option Addr) (c0 : Nat) (l0 : List Int) (r : List Int) (w : World) (hr0 : Kd.C (Kd.int .u8) w A0 l0.length l0) (hc0 : l0.length ≤ c0) (h : bytes_Clone.f l0 = some r) :
  Calls Try.prog 72 #[.slice A0 l0.length c0] w fun e w' => ∃ v0_ : Value, e = .returned (v0_) ∧ Kd.R (Kd.int .u8) 5 w' w.heap.size (fun _ => True) v0_ r ∧ Below w.heap.size w w' := by
 have HR0 := Aside0.mk hr0
 clear hr0 hc0
 unfold bytes_Clone.f at h
 by_cases hl : l0.length < 140737488355328
 rotate_left
 ·rw [if_neg hl] at h
  cases h
 rw [if_pos hl] at h
 obtain rfl := Option.some.inj h
 have HL := Aside0.mk hl
 clear h hl
 have HB := Aside0.mk (Below.refl w.heap.size w)
 rcases A0 with _ | ad
 ·obtain rfl : l0 = [] := by
   cases l0 with
   | nil => rfl
   | cons x xs => obtain ⟨ad, h, _⟩ := HR0.out.2.2 (by simp); cases h
  have hq := fun (w : World) => Lib.run_eql_slice_nil (P := Try.prog) w 27 5 none 0 c0 0 0 Try.underlying27
  simp only [List.length_nil]
  go_enter Try.func72, Try.ntmps72
  go_wp2
  go_ret
  exact ⟨_, rfl, Kd.R_nil _ _ _ _ _, Below.refl _ _⟩
 have hq := fun (w : World) => Lib.run_eql_slice_nil (P := Try.prog) w 27 5 (some ad) l0.length c0 0 0 Try.underlying27
 go_enter Try.func72, Try.ntmps72
 go_wp2_with (first | ((with_reducible refine gate_dst (N := 5) rfl ?_); refine Kd.R_lit (Kd.int .u8) _ 5 ?hg (N := 5) ?hd (xs := ([] : List Int)) (inner := []) (ok := fun _ => True) (okp := fun _ => True) ?hr ?hp (fun _ hk => hk) trivial (Below.refl _ _) (Nat.le_refl _) (by simp) ?_; (case hd => rfl); (case hg => rfl); (case hr => first | (go_simp; done) | (go_simp; rfl)); (case hp => exact (Reps.none _ _)); intro v1 w1 ho0 hb hg_ hnew_; clear hg_ hnew_; have HO0 := Aside0.mk (Kd.R_lower ho0 (below_size HB.out)); replace HB := Cz.bs (w := w) hb; clear hb ho0) | ((with_reducible refine gate_builtin (b := .append) (xs := #[.tmp 5, .tmp 6]) rfl ?_); at_builtin; refine Kd.R_append_rows (Kd.int .u8) (w0 := w) w.heap.size rfl (.tmp 5) (.tmp 6) 27 5 (.int .u8 0) 1 rfl Try.underlying27 info5 rfl (by decide) (by omega) v1 [] l0 _ _ _ (fun _ => True) (fun _ => False) rfl rfl ?aO ?aR (fun _ _ h => h) (fun _ h => h.elim) ?aF ?aB ?aS ?aL ?_; (case aR => exact Cz.cb HR0); (case aB => exact HB.out); (case aF => exact (fun _ _ => trivial)); (case aO => exact HO0.out); (case aS => exact below_size HB.out); (case aL => have := HL.out; simp; omega); intro v2 w2 ho hb hg hat; have HO1 := Aside0.mk (ho); replace HB := Aside0.mk (hb); clear HO0; clear ho hb hg hat))
 go_ret
 exact ⟨_, rfl, HO1.out, HB.out⟩
end Go.Proofs.Ytohkmmbmfhficaa.PT
