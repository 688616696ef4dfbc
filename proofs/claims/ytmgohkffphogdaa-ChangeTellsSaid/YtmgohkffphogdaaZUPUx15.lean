/- Words and walks that this claim names, of those that the kit's print and programs of this workplace have printed. -/
import Derived.Test.YtmgohkffphogdaaZUCz
import Derived.Test.YtmgohkffphogdaaProg
import Derived.Below
import Derived.Deep.Draws
import Derived.Deep.AppendLies
import Derived.Maps.AppendAt
import Derived.OwnWalk
import Derived.Laws.BytesArg
import Derived.Laws.MakeOwn
import Derived.Laws.OwnMore
import Derived.Deep.OwnRows
import Derived.Tactics
import Derived.Lib.ConvBytes
import Derived.Laws.Slices
import Derived.WalkKit
import Derived.KernelRfl
import Derived.RowKit3
import Derived.Deep.LoopGhost
import Derived.Deep.QuietTactic
import Derived.BigQuiet
import Derived.WideLaws
import Derived.Deep.DeepCutAuto
import Derived.Deep.CutBlock
import Derived.Deep.RegionHeld3
import Derived.Laws.Rows
import Derived.Lib.AppendStr
import Derived.ArgAppend
import Derived.Laws.IdiomCopy
import Derived.OrdersHeld
import Derived.Laws.BitsLemmas
import Derived.RowKit
import Derived.Lib.SliceRun
import Derived.Laws.EntriesVeiled
import Derived.Test.YtmgohkffphogdaaZUChg
import Derived.Test.YtmgohkffphogdaaZUCap
import Derived.Laws.Tables
import Derived.Laws.CopyOwn
import Derived.Test.YtmgohkffphogdaaZUExts
import Derived.Test.YtmgohkffphogdaaZUGb
import Derived.Test.YtmgohkffphogdaaZUScope
import Derived.Test.YtmgohkffphogdaaZUWWords
import Derived.Test.YtmgohkffphogdaaZUWApart
import Derived.WalkMore
import Derived.Test.YtmgohkffphogdaaZUForm
import Derived.Test.YtmgohkffphogdaaZUWLast
import Derived.Test.YtmgohkffphogdaaZUKd
import Derived.Laws.RangeAny
import Derived.Lib.OthersKept
import Derived.Test.YtmgohkffphogdaaZULe
import Derived.Laws.BitsAllLaws
import Derived.Laws.StandIn
import Derived.Laws.Runes
import Derived.Test.YtmgohkffphogdaaZUArr
import Derived.Test.YtmgohkffphogdaaZUStr
import Derived.Test.YtmgohkffphogdaaZUWTab
import Derived.Test.YtmgohkffphogdaaZUWFoot
import Derived.Test.YtmgohkffphogdaaZUWKept
import Derived.Test.YtmgohkffphogdaaZUWShare
import Derived.Test.YtmgohkffphogdaaZUWN
import Derived.Test.YtmgohkffphogdaaZUWRepsOne
import Derived.Test.YtmgohkffphogdaaZUWGuard
import Derived.Test.YtmgohkffphogdaaZUWMore
namespace Go.Proofs.Ytmgohkffphogdaa.PU
open Go.Proofs.Ytmgohkffphogdaa Go.RowKit Go.Proofs.YtmgohkffphogdaaW.PrintWords Go.Proofs.YtmgohkffphogdaaW.PrintLast Go.Proofs.YtmgohkffphogdaaW.PrintMore
attribute [local go_sem] max2_int min2_int max_two min_two max_three min_three max_four min_four
set_option linter.unusedVariables false
set_option linter.unusedSimpArgs false
def errW : Option Int → Value
  | none => .nilIface
  | some c => .iface 0 (.int .i64 c)
theorem errW_none : errW none = .nilIface := rfl
theorem errW_some (c : Int) : errW (some c) = .iface 0 (.int .i64 c) := rfl
theorem info5 : (Try.prog.info? 5).map (fun i => (i.zero, i.size, i.bytes)) = some (some (.int .u8 0), 1, 1) := by kernel_rfl
theorem info39 : (Try.prog.info? 39).map (fun i => (i.zero, i.size, i.bytes)) = some (some (.agg #[(.int .i64 0), (.int .i64 0), (.int .i64 0), (.int .i64 0), (.slice none 0 0)]), 5, 56) := by kernel_rfl
theorem info44 : (Try.prog.info? 44).map (fun i => (i.zero, i.size, i.bytes)) = some (some (.int .u64 0), 1, 8) := by kernel_rfl
structure S39 where
  f0 : Int
  f1 : Int
  f2 : Int
  f3 : Int
  f4 : (List Int)
def z39 : S39 := ⟨(0 : Int), (0 : Int), (0 : Int), (0 : Int), ([] : List Int)⟩
def k39 : Kd S39 := Kd.iso (Kd.pair (Kd.int .i64) (Kd.pair (Kd.int .i64) (Kd.pair (Kd.int .i64) (Kd.pair (Kd.int .i64) (Kd.slice 5 (Kd.int .u8)))))) (fun x : S39 => (x.f0, x.f1, x.f2, x.f3, x.f4))
theorem k39_open {w : World} {x : S39} {cs : List Value} (h : k39.K w x cs) : ∃ A4 c4, cs = [.int .i64 x.f0, .int .i64 x.f1, .int .i64 x.f2, .int .i64 x.f3, .slice A4 x.f4.length c4] ∧ x.f4.length ≤ c4 ∧ (Kd.int .u8).C w A4 x.f4.length x.f4 := by
  obtain ⟨_, _, rfl, rfl, ⟨_, _, rfl, rfl, ⟨_, _, rfl, rfl, ⟨_, _, rfl, rfl, ⟨A4, c4, rfl, l4, g4⟩⟩⟩⟩⟩ := h
  exact ⟨A4, c4, rfl, l4, g4⟩
theorem k39_mk (w : World) (x : S39) {A4 : Option Addr} {c4 : Nat} (l4 : x.f4.length ≤ c4) (g4 : (Kd.int .u8).C w A4 x.f4.length x.f4) : k39.K w x [.int .i64 x.f0, .int .i64 x.f1, .int .i64 x.f2, .int .i64 x.f3, .slice A4 x.f4.length c4] := ⟨[.int .i64 x.f0], [.int .i64 x.f1, .int .i64 x.f2, .int .i64 x.f3, .slice A4 x.f4.length c4], rfl, rfl, ⟨[.int .i64 x.f1], [.int .i64 x.f2, .int .i64 x.f3, .slice A4 x.f4.length c4], rfl, rfl, ⟨[.int .i64 x.f2], [.int .i64 x.f3, .slice A4 x.f4.length c4], rfl, rfl, ⟨[.int .i64 x.f3], [.slice A4 x.f4.length c4], rfl, rfl, ⟨A4, c4, rfl, l4, g4⟩⟩⟩⟩⟩
theorem k39_mkM (w : World) (base : Nat) (ok : Nat → Prop) (x : S39) {v4 : Value} (g4 : (Kd.int .u8).R 5 w base ok v4 x.f4) : k39.M w base ok x [.int .i64 x.f0, .int .i64 x.f1, .int .i64 x.f2, .int .i64 x.f3, v4] := ⟨[.int .i64 x.f0], [.int .i64 x.f1, .int .i64 x.f2, .int .i64 x.f3, v4], rfl, rfl, ⟨[.int .i64 x.f1], [.int .i64 x.f2, .int .i64 x.f3, v4], rfl, rfl, ⟨[.int .i64 x.f2], [.int .i64 x.f3, v4], rfl, rfl, ⟨[.int .i64 x.f3], [v4], rfl, rfl, ⟨v4, rfl, g4⟩⟩⟩⟩⟩
def rd_T39 (xs : List S39) (i : Int) : S39 := xs.getD i.toNat z39
theorem at_T39 {w : World} {A : Option Addr} {n : Nat} {xs : List S39} (h : Kd.C k39 w A n xs) (i : Int) (h0 : 0 ≤ i) (h1 : i < n) : ∃ ad A4 c4, A = some ad ∧ w.cell? (ad.add (i.toNat * 5)) = some (.int .i64 (rd_T39 xs i).f0) ∧ w.cell? ⟨(ad.add (i.toNat * 5)).block, (ad.add (i.toNat * 5)).off + 1, none⟩ = some (.int .i64 (rd_T39 xs i).f1) ∧ w.cell? ⟨(ad.add (i.toNat * 5)).block, (ad.add (i.toNat * 5)).off + 2, none⟩ = some (.int .i64 (rd_T39 xs i).f2) ∧ w.cell? ⟨(ad.add (i.toNat * 5)).block, (ad.add (i.toNat * 5)).off + 3, none⟩ = some (.int .i64 (rd_T39 xs i).f3) ∧ w.cell? ⟨(ad.add (i.toNat * 5)).block, (ad.add (i.toNat * 5)).off + 4, none⟩ = some (.slice A4 (rd_T39 xs i).f4.length c4) ∧ (rd_T39 xs i).f4.length ≤ c4 ∧ (Kd.int .u8).C w A4 (rd_T39 xs i).f4.length (rd_T39 xs i).f4 := by
  obtain ⟨ad, c, e, _, hK, hc0⟩ := Kd.C_get h z39 i h0 h1
  have hc : ∀ j u, c[j]? = some u → w.cell? (ad.add (i.toNat * 5 + j)) = some u := hc0
  obtain ⟨A4, c4, rfl, l4, g4⟩ := k39_open hK
  exact ⟨ad, A4, c4, e, hc 0 _ rfl, by rw [← add_field _ _ 1 (by omega)]; exact hc 1 _ rfl, by rw [← add_field _ _ 2 (by omega)]; exact hc 2 _ rfl, by rw [← add_field _ _ 3 (by omega)]; exact hc 3 _ rfl, by rw [← add_field _ _ 4 (by omega)]; exact hc 4 _ rfl, l4, g4⟩
structure S26 where
  f0 : Int
  f1 : Int
  f2 : Int
  f3 : Int
  f4 : (List Int)
  f5 : (List S39)
def toE (s : S39) : Pl.Ext := (s.f0, s.f1, s.f2, s.f3, s.f4)
def ofE (e : Pl.Ext) : S39 := ⟨e.1, e.2.1, e.2.2.1, e.2.2.2.1, e.2.2.2.2⟩
theorem map_toE_ofE (l : List Pl.Ext) : (l.map ofE).map toE = l := by
  rw [List.map_map]
  exact List.map_id l
theorem rd_getE (l : List S39) (i : Nat) (h : i < l.length) : rd_T39 l (i : Int) = l[i] := by
  unfold rd_T39
  rw [Int.toNat_natCast, List.getD_eq_getElem?_getD, List.getElem?_eq_getElem h, Option.getD_some]
end Go.Proofs.Ytmgohkffphogdaa.PU
namespace Go.Proofs.Ytmgohkffphogdaa.PU
open Go.Proofs.Ytmgohkffphogdaa Go.RowKit Go.Proofs.YtmgohkffphogdaaW.PrintWords Go.Proofs.YtmgohkffphogdaaW.PrintLast Go.Proofs.YtmgohkffphogdaaW.PrintMore
attribute [local go_sem] max2_int min2_int max_two min_two max_three min_three max_four min_four
set_option linter.unusedVariables false
set_option linter.unusedSimpArgs false
def change_kinds_1.f (a0_0 : Int) (a0_1 : Int) (a0_2 : Int) (a0_3 : Int) (l0_4 : List Int) (l0_5 : List (S39)) : Option (Bool) := some ((l0_4.length : Int) == 0)
set_option maxHeartbeats 8000000 in
set_option maxRecDepth 100000 in
theorem change_kinds_1.calls (a0_0 : Int) (a0_1 : Int) (a0_2 : Int) (a0_3 : Int) (A0_4 : Option Addr) (c0_4 : Nat) (l0_4 : List Int) (A0_5 : Option Addr) (c0_5 : Nat) (l0_5 : List (S39)) (r : Bool) (w : World) (hr0_4 : Kd.C (Kd.int .u8) w A0_4 l0_4.length l0_4) (hc0_4 : l0_4.length ≤ c0_4) (hr0_5 : Kd.C k39 w A0_5 l0_5.length l0_5) (hc0_5 : l0_5.length ≤ c0_5) (h : change_kinds_1.f a0_0 a0_1 a0_2 a0_3 l0_4 l0_5 = some r) :
  Calls Try.prog 45 #[.agg #[.int .i64 a0_0, .int .i64 a0_1, .int .i64 a0_2, .int .i64 a0_3, .slice A0_4 l0_4.length c0_4, .slice A0_5 l0_5.length c0_5]] w fun e w' => e = .returned (.bool r) ∧ Below w.heap.size w w' := by
 have hu26 := Try.underlying26
 have HR0_4 := Aside0.mk hr0_4
 have HC0_4 := Aside0.mk hc0_4
 clear hr0_4 hc0_4
 have HR0_5 := Aside0.mk hr0_5
 have HC0_5 := Aside0.mk hc0_5
 clear hr0_5 hc0_5
 have HB := Aside0.mk (Below.refl w.heap.size w)
 have H : (some ((l0_4.length : Int) == 0)) = some r := h
 clear h
 obtain rfl := Option.some.inj H
 go_enter Try.func45, Try.ntmps45
 go_wp2_with (first | ((with_reducible refine gate_dst (N := 1) rfl ?_); refine Cz.bx (N := 1) #[.int .i64 a0_0, .int .i64 a0_1, .int .i64 a0_2, .int .i64 a0_3, .slice A0_4 l0_4.length c0_4, .slice A0_5 l0_5.length c0_5] 26 ?_; intro gb101 hg w2 hbox hb; have BK101 := Aside0.mk (hbox); have GW101 := Aside0.mk ((Cz.gs hg : w.heap.size ≤ gb101)); have GE101 := GW101; replace HB := Cz.bs (w := w) hb; clear hb hbox hg; obtain ⟨z3_0, z3_1, z3_2, z3_3, z3_4, z3_5, y3_0, y3_1, y3_2, y3_3, y3_4, y3_5⟩ := Cz.d6 BK101))
 go_ret
 exact ⟨Cz.er, Cz.bl (w := w)⟩
def change_within.f (a0 : Int) (a1 : Int) (a2 : Int) : Option (Bool) := if a0 ≥ a1 then (some (decide (a0 ≤ a2))) else (some false)
set_option maxHeartbeats 8000000 in
set_option maxRecDepth 100000 in
theorem change_within.calls (a0 : Int) (a1 : Int) (a2 : Int) (r : Bool) (w : World) (h : change_within.f a0 a1 a2 = some r) :
  Calls Try.prog 30 #[.int .i64 a0, .int .i64 a1, .int .i64 a2] w fun e w' => e = .returned (.bool r) ∧ Drawn0 w w' := by
 have H : (if a0 ≥ a1 then (some (decide (a0 ≤ a2))) else (some false)) = some r := h
 clear h
 by_cases c4 : a0 ≥ a1
 ·rw [if_pos c4] at H
  have c4b0 : decide (a1 ≤ a0) = true := decide_eq_true c4
  clear c4
  obtain rfl := Option.some.inj H
  go_enter Try.func30, Try.ntmps30
  go_wp2
  go_ret
  exact ⟨by first | rfl | (simp; done) | (simp [*]; done), by repeat (first | exact Drawn0.refl _ | apply Drawn0.step)⟩
 ·rw [if_neg c4] at H
  have c4b0 : decide (a1 ≤ a0) = false := decide_eq_false c4
  clear c4
  obtain rfl := Option.some.inj H
  go_enter Try.func30, Try.ntmps30
  go_wp2
  go_ret
  exact ⟨by first | rfl | (simp; done) | (simp [*]; done), by repeat (first | exact Drawn0.refl _ | apply Drawn0.step)⟩
def change_kinds_2.f (a0_0 : Int) (a0_1 : Int) (a0_2 : Int) (a0_3 : Int) (l0_4 : List Int) (l0_5 : List (S39)) : Option (Bool) := (change_within.f (l0_4.length : Int) 1 1000).bind fun t103 => (some t103)
set_option maxHeartbeats 8000000 in
set_option maxRecDepth 100000 in
theorem change_kinds_2.calls (a0_0 : Int) (a0_1 : Int) (a0_2 : Int) (a0_3 : Int) (A0_4 : Option Addr) (c0_4 : Nat) (l0_4 : List Int) (A0_5 : Option Addr) (c0_5 : Nat) (l0_5 : List (S39)) (r : Bool) (w : World) (hr0_4 : Kd.C (Kd.int .u8) w A0_4 l0_4.length l0_4) (hc0_4 : l0_4.length ≤ c0_4) (hr0_5 : Kd.C k39 w A0_5 l0_5.length l0_5) (hc0_5 : l0_5.length ≤ c0_5) (h : change_kinds_2.f a0_0 a0_1 a0_2 a0_3 l0_4 l0_5 = some r) :
  Calls Try.prog 46 #[.agg #[.int .i64 a0_0, .int .i64 a0_1, .int .i64 a0_2, .int .i64 a0_3, .slice A0_4 l0_4.length c0_4, .slice A0_5 l0_5.length c0_5]] w fun e w' => e = .returned (.bool r) ∧ Below w.heap.size w w' := by
 have hu26 := Try.underlying26
 have HR0_4 := Aside0.mk hr0_4
 have HC0_4 := Aside0.mk hc0_4
 clear hr0_4 hc0_4
 have HR0_5 := Aside0.mk hr0_5
 have HC0_5 := Aside0.mk hc0_5
 clear hr0_5 hc0_5
 have HB := Aside0.mk (Below.refl w.heap.size w)
 have H : ((change_within.f (l0_4.length : Int) 1 1000).bind fun t103 => (some t103)) = some r := h
 clear h
 replace H := Option.bind_eq_some_iff.mp H
 obtain ⟨t103, A20, H⟩ := H
 (try dsimp only at H)
 have A2 := Aside0.mk A20
 clear A20
 obtain rfl := Option.some.inj H
 go_enter Try.func46, Try.ntmps46
 go_wp2_with (first | ((with_reducible refine gate_dst (N := 1) rfl ?_); refine Cz.bx (N := 1) #[.int .i64 a0_0, .int .i64 a0_1, .int .i64 a0_2, .int .i64 a0_3, .slice A0_4 l0_4.length c0_4, .slice A0_5 l0_5.length c0_5] 26 ?_; intro gb102 hg w3 hbox hb; have BK102 := Aside0.mk (hbox); have GW102 := Aside0.mk ((Cz.gs hg : w.heap.size ≤ gb102)); have GE102 := GW102; replace HB := Cz.bs (w := w) hb; clear hb hbox hg; obtain ⟨z4_0, z4_1, z4_2, z4_3, z4_4, z4_5, y4_0, y4_1, y4_2, y4_3, y4_4, y4_5⟩ := Cz.d6 BK102) | ((with_reducible refine gate_callee (f := 30) rfl ?_); refine Cz.gL (N := (some 6)) Try.func30 #[.int .i64 (l0_4.length : Int), .int .i64 1, .int .i64 1000] ?_; (with_reducible refine (change_within.calls (l0_4.length : Int) 1 1000 t103 _ A2.out).mono ?_); rintro e w' ⟨rfl, ⟨nd, rfl⟩⟩; refine ⟨_, rfl, ?_⟩))
 go_ret
 exact ⟨Cz.er, Cz.bl (w := w)⟩
def change_kinds_3.f (a0_0 : Int) (a0_1 : Int) (a0_2 : Int) (a0_3 : Int) (l0_4 : List Int) (l0_5 : List (S39)) : Option (Bool) := some ((l0_4.length : Int) == (wrap64 (a0_2 * 32)))
set_option maxHeartbeats 8000000 in
set_option maxRecDepth 100000 in
theorem change_kinds_3.calls (a0_0 : Int) (a0_1 : Int) (a0_2 : Int) (a0_3 : Int) (A0_4 : Option Addr) (c0_4 : Nat) (l0_4 : List Int) (A0_5 : Option Addr) (c0_5 : Nat) (l0_5 : List (S39)) (r : Bool) (w : World) (hr0_4 : Kd.C (Kd.int .u8) w A0_4 l0_4.length l0_4) (hc0_4 : l0_4.length ≤ c0_4) (hr0_5 : Kd.C k39 w A0_5 l0_5.length l0_5) (hc0_5 : l0_5.length ≤ c0_5) (h : change_kinds_3.f a0_0 a0_1 a0_2 a0_3 l0_4 l0_5 = some r) :
  Calls Try.prog 47 #[.agg #[.int .i64 a0_0, .int .i64 a0_1, .int .i64 a0_2, .int .i64 a0_3, .slice A0_4 l0_4.length c0_4, .slice A0_5 l0_5.length c0_5]] w fun e w' => e = .returned (.bool r) ∧ Below w.heap.size w w' := by
 have hu26 := Try.underlying26
 have HR0_4 := Aside0.mk hr0_4
 have HC0_4 := Aside0.mk hc0_4
 clear hr0_4 hc0_4
 have HR0_5 := Aside0.mk hr0_5
 have HC0_5 := Aside0.mk hc0_5
 clear hr0_5 hc0_5
 have HB := Aside0.mk (Below.refl w.heap.size w)
 have H : (some ((l0_4.length : Int) == (wrap64 (a0_2 * 32)))) = some r := h
 clear h
 obtain rfl := Option.some.inj H
 go_enter Try.func47, Try.ntmps47
 go_wp2_with (first | ((with_reducible refine gate_dst (N := 1) rfl ?_); refine Cz.bx (N := 1) #[.int .i64 a0_0, .int .i64 a0_1, .int .i64 a0_2, .int .i64 a0_3, .slice A0_4 l0_4.length c0_4, .slice A0_5 l0_5.length c0_5] 26 ?_; intro gb104 hg w2 hbox hb; have BK104 := Aside0.mk (hbox); have GW104 := Aside0.mk ((Cz.gs hg : w.heap.size ≤ gb104)); have GE104 := GW104; replace HB := Cz.bs (w := w) hb; clear hb hbox hg; obtain ⟨z3_0, z3_1, z3_2, z3_3, z3_4, z3_5, y3_0, y3_1, y3_2, y3_3, y3_4, y3_5⟩ := Cz.d6 BK104))
 go_ret
 exact ⟨Cz.er, Cz.bl (w := w)⟩
end Go.Proofs.Ytmgohkffphogdaa.PU
namespace Go.Proofs.Ytmgohkffphogdaa.PU
open Go.Proofs.Ytmgohkffphogdaa Go.RowKit Go.Proofs.YtmgohkffphogdaaW.PrintWords Go.Proofs.YtmgohkffphogdaaW.PrintLast Go.Proofs.YtmgohkffphogdaaW.PrintMore
attribute [local go_sem] max2_int min2_int max_two min_two max_three min_three max_four min_four
end Go.Proofs.Ytmgohkffphogdaa.PU
namespace Go.Proofs.Ytmgohkffphogdaa.PU
open Go.Proofs.Ytmgohkffphogdaa Go.RowKit Go.Proofs.YtmgohkffphogdaaW.PrintWords Go.Proofs.YtmgohkffphogdaaW.PrintLast Go.Proofs.YtmgohkffphogdaaW.PrintMore
attribute [local go_sem] max2_int min2_int max_two min_two max_three min_three max_four min_four
set_option linter.unusedVariables false
set_option linter.unusedSimpArgs false
theorem stringslite_IndexByte.goes (s : ByteArray) (c : Int) (w : World) :
  Calls Try.prog 56 #[.string s, .int .u8 c] w fun e w' => e = .returned (.int .i64 (firstIdx s c.toNat.toUInt8)) ∧ Drawn0 w w' := by
 have hx : ∀ w : World, (callFunc 57 #[.string s, .int .u8 c]).run Try.prog w = .ok (.value (.int .i64 (firstIdx s c.toNat.toUInt8))) w := fun w => by
  rw [run_callFunc_indexByte Try.func57 (by kernel_rfl) (by kernel_rfl) (by kernel_rfl) (by kernel_rfl), run_indexByte_string]
  rfl
 go_enter Try.func56, Try.ntmps56
 go_wp2
 go_ret
 exact ⟨rfl, Drawn0.refl _⟩
theorem strings_IndexByte.goes (s : ByteArray) (c : Int) (w : World) :
  Calls Try.prog 52 #[.string s, .int .u8 c] w fun e w' => e = .returned (.int .i64 (firstIdx s c.toNat.toUInt8)) ∧ Drawn0 w w' := by
 go_enter Try.func52, Try.ntmps52
 go_wp2_with (first | (go_at_call 56; refine (stringslite_IndexByte.goes s c _).mono ?_; rintro e w' ⟨rfl, ⟨nd, rfl⟩⟩))
 go_ret
 exact ⟨rfl, ⟨nd, rfl⟩⟩
def utf8_ValidRune.j0 : Nat → Int → Bool → Option (Bool)
 | 0, _, _ => none
 | k + 1, x0, x3 => if x3 = true then (some true) else (if 57343 < x0 then (if x0 ≤ 1114111 then (some true) else (some false)) else (some false))
def utf8_ValidRune.f (k : Nat) (a0 : Int) : Option (Bool) := if 0 ≤ a0 then (utf8_ValidRune.j0 k a0 (decide (a0 < 55296))) else (utf8_ValidRune.j0 k a0 false)
set_option maxHeartbeats 8000000 in
set_option maxRecDepth 100000 in
theorem utf8_ValidRune.calls (k : Nat) (a0 : Int) (r : Bool) (w : World) (h : utf8_ValidRune.f k a0 = some r) :
  Calls Try.prog 53 #[.int .i32 a0] w fun e w' => e = .returned (.bool r) ∧ Drawn0 w w' := by
 have H : (if 0 ≤ a0 then (utf8_ValidRune.j0 k a0 (decide (a0 < 55296))) else (utf8_ValidRune.j0 k a0 false)) = some r := h
 clear h
 have HC2 := Aside0.mk H
 clear H
 go_enter Try.func53, Try.ntmps53
 go_upto_region 1 with (fail)
 go_cut [3] (fun v3 wc => ∃ (kq : Nat) (x3_1 : Bool), v3 = .bool x3_1 ∧ Aside0 (utf8_ValidRune.j0 kq a0 x3_1 = some r) ∧ Aside0 (kq ≤ k) ∧ Drawn0 w wc)
 case first =>
  have H := HC2.out
  clear HC2
  by_cases c3 : 0 ≤ a0
  ·rw [if_pos c3] at H
   have c3b0 : decide (0 ≤ a0) = true := decide_eq_true c3
   clear c3
   (first | rw [c3b0] | (simp only [i64_w, i32_w]; rw [c3b0]) | skip)
   have H' := Aside0.mk H
   clear H
   go_wp2
   go_meet
   case rel => exact ⟨_, (decide (a0 < 55296)), Cz.si, H', ⟨by first | omega | exact Nat.le_refl _⟩, by repeat (first | exact Drawn0.refl _ | apply Drawn0.step)⟩
  ·rw [if_neg c3] at H
   have c3b0 : decide (0 ≤ a0) = false := decide_eq_false c3
   clear c3
   (first | rw [c3b0] | (simp only [i64_w, i32_w]; rw [c3b0]) | skip)
   have H' := Aside0.mk H
   clear H
   go_wp2
   go_meet
   case rel => exact ⟨_, (false), Cz.si, H', ⟨by first | omega | exact Nat.le_refl _⟩, by repeat (first | exact Drawn0.refl _ | apply Drawn0.step)⟩
 case rest =>
  clear HC2
  try clear p2
  try clear c3
  try clear c3b0
  obtain ⟨kq, x3_1, rfl, HA, HJ1, ⟨mc1, rfl⟩⟩ := hcut
  cases kq with
  | zero => exact absurd HA.out (by simp [utf8_ValidRune.j0])
  | succ kj1 =>
   have H := HA.out
   clear HA
   simp only [utf8_ValidRune.j0] at H
   by_cases c4 : x3_1 = true
   ·subst c4
    rw [if_pos rfl] at H
    obtain rfl := Option.some.inj H
    go_wp2
    go_ret
    exact ⟨by first | rfl | (simp; done) | (simp [*]; done), by repeat (first | exact Drawn0.refl _ | apply Drawn0.step)⟩
   ·replace c4 := Bool.eq_false_iff.mpr c4
    subst c4
    rw [if_neg (show ¬ (false = true) by decide)] at H
    by_cases c5 : 57343 < a0
    ·rw [if_pos c5] at H
     have c5b0 : decide (57343 < a0) = true := decide_eq_true c5
     clear c5
     by_cases c6 : a0 ≤ 1114111
     ·rw [if_pos c6] at H
      have c6b0 : decide (a0 ≤ 1114111) = true := decide_eq_true c6
      clear c6
      obtain rfl := Option.some.inj H
      go_wp2
      go_ret
      exact ⟨by first | rfl | (simp; done) | (simp [*]; done), by repeat (first | exact Drawn0.refl _ | apply Drawn0.step)⟩
     ·rw [if_neg c6] at H
      have c6b0 : decide (a0 ≤ 1114111) = false := decide_eq_false c6
      clear c6
      obtain rfl := Option.some.inj H
      go_wp2
      go_ret
      exact ⟨by first | rfl | (simp; done) | (simp [*]; done), by repeat (first | exact Drawn0.refl _ | apply Drawn0.step)⟩
    ·rw [if_neg c5] at H
     have c5b0 : decide (57343 < a0) = false := decide_eq_false c5
     clear c5
     obtain rfl := Option.some.inj H
     go_wp2
     go_ret
     exact ⟨by first | rfl | (simp; done) | (simp [*]; done), by repeat (first | exact Drawn0.refl _ | apply Drawn0.step)⟩
end Go.Proofs.Ytmgohkffphogdaa.PU
namespace Go.Proofs.Ytmgohkffphogdaa.PU
open Go.Proofs.Ytmgohkffphogdaa Go.RowKit Go.Proofs.YtmgohkffphogdaaW.PrintWords Go.Proofs.YtmgohkffphogdaaW.PrintLast Go.Proofs.YtmgohkffphogdaaW.PrintMore
attribute [local go_sem] max2_int min2_int max_two min_two max_three min_three max_four min_four
end Go.Proofs.Ytmgohkffphogdaa.PU
namespace Go.Proofs.Ytmgohkffphogdaa.PU
open Go.Proofs.Ytmgohkffphogdaa Go.RowKit Go.Proofs.YtmgohkffphogdaaW.PrintWords Go.Proofs.YtmgohkffphogdaaW.PrintLast Go.Proofs.YtmgohkffphogdaaW.PrintMore
attribute [local go_sem] max2_int min2_int max_two min_two max_three min_three max_four min_four
set_option linter.unusedVariables false
set_option linter.unusedSimpArgs false
set_option maxRecDepth 2000000 in
theorem strings_IndexRune.low (s : ByteArray) (r : Int) (w : World) (h0 : 0 ≤ r) (h1 : r < 128) :
  Calls Try.prog 49 #[.string s, .int .i32 r] w fun e w' => e = .returned (.int .i64 (firstIdx s r.toNat.toUInt8)) ∧ Below w.heap.size w w' := by
 have hr : r % 256 = r := by omega
 go_enter Try.func49, Try.ntmps49
 go_wp2_with (first | (go_at_call 52; refine (strings_IndexByte.goes s r _).mono ?_; rintro e w' ⟨rfl, ⟨nd, rfl⟩⟩))
 go_ret
 exact ⟨rfl, pw_below_drewN (Below.refl _ _) nd⟩
set_option maxHeartbeats 8000000 in
set_option maxRecDepth 2000000 in
theorem strings_IndexRune.none' (s : ByteArray) (w : World) (hs : ∀ i (h : i < s.size), (s[i]'h).toNat < 128) :
  Calls Try.prog 49 #[.string s, .int .i32 65533] w fun e w' => e = .returned (.int .i64 (-1)) ∧ Below w.heap.size w w' := by
 obtain ⟨B, hB⟩ : ∃ B, B = w.heap.size := ⟨_, rfl⟩
 have HBN := Aside0.mk hB
 clear hB
 have hk0 : Aside0 ((w.iter s 0).heap[B]? = some (.stringIter s 0)) := ⟨by rw [HBN.out]; exact World.iter_heap w s 0⟩
 have hb0 : Aside0 (Below w.heap.size w (w.iter s 0)) := ⟨(Below.refl _ w).alloc (Nat.le_refl _) _⟩
 go_enter Try.func49, Try.ntmps49
 go_wp2
 rw [← HBN.out]
 generalize w.iter s 0 = w0 at hk0 hb0 ⊢
 go_loopw [] (fun wr => ∃ pos : Nat, pos ≤ s.size ∧ Aside0 (wr.heap[B]? = some (.stringIter s pos)) ∧ Aside0 (Below w.heap.size w wr)) (fun wr => s.size - wr.iterPos B)
 case atStart => exact ⟨0, Nat.zero_le _, hk0, hb0⟩
 case round =>
  obtain ⟨pos, hps, hk, hnx⟩ := hrel
  clear hk0 hb0
  by_cases hp : pos < s.size
  ·have hnext : ∀ ty, (Instr.next (.pointer (some ⟨B, 0, none⟩)) true ty).run Try.prog wr = _ := fun ty => Lib.run_next_ascii_at wr B s pos ty hk.out hp (hs pos hp)
   have hk1 := Aside0.mk (Lib.iterAt_heap wr B s pos (pos + 1) hk.out)
   have hn1 := Aside0.mk (Lib.below_iterAt (k := B) hnx.out (by rw [HBN.out]; exact Nat.le_refl _) s (pos + 1))
   have hmu : Aside0 (wr.iterPos B = pos) := ⟨by simp [World.iterPos, hk.out]⟩
   have hmu2 : Aside0 ((wr.iterAt B s (pos + 1)).iterPos B = pos + 1) := ⟨by simp [World.iterPos, hk1.out]⟩
   have hb := hs pos hp
   obtain ⟨x, hx⟩ : ∃ x, x = (s[pos]'hp).toNat := ⟨_, rfl⟩
   rw [← hx] at hnext hb
   have hne : ((x : Int) == 65533) = false := by simp; omega
   clear hx
   generalize wr.iterAt B s (pos + 1) = W1 at hnext hk1 hn1 hmu2
   go_wp2
   go_roundw
   case rel => exact ⟨pos + 1, by omega, hk1, hn1⟩
   case measure => rw [hmu.out, hmu2.out]; omega
  ·have hnext : ∀ ty, (Instr.next (.pointer (some ⟨B, 0, none⟩)) true ty).run Try.prog wr = _ := fun ty => Lib.run_next_end_at wr B s pos ty hk.out hp
   go_wp2
   go_ret
   exact ⟨rfl, hnx.out⟩
set_option maxHeartbeats 8000000 in
set_option maxRecDepth 2000000 in
theorem strings_IndexRune.high (s : ByteArray) (r : Nat) (w : World) (hs : ∀ b ∈ s.data.toList, b.toNat < 128) (h4 : 4 ≤ s.size) (h5 : s.size < 2147483648) (h1 : 128 ≤ r) (h2 : r ≤ 2147483647) (h3 : r ≠ 65533) :
  Calls Try.prog 49 #[.string s, .int .i32 r] w fun e w' => e = .returned (.int .i64 (-1)) ∧ Below w.heap.size w w' := by
 have d1 : decide ((r : Int) < 128) = false := decide_eq_false (by omega)
 have d2 : ((r : Int) == 65533) = false := by simp; omega
 have HV : ∀ w, Calls Try.prog 53 #[.int .i32 (r : Int)] w fun e w' => e = .returned (.bool (Utf8.valid r)) ∧ Drawn0 w w' := fun w => utf8_ValidRune.calls 1 (r : Int) _ w (by
  rw [validRune_eq]
  unfold utf8_ValidRune.f validRune
  rw [if_pos (by omega)]
  have hj : ∀ b, utf8_ValidRune.j0 1 (r : Int) b = if b = true then some true else (if 57343 < (r : Int) then (if (r : Int) ≤ 1114111 then some true else some false) else some false) := fun b => rfl
  rw [hj]
  by_cases ha : (r : Int) < 55296
  ·rw [decide_eq_true ha, if_pos rfl, decide_eq_true (Or.inl ⟨by omega, ha⟩)]
  ·rw [decide_eq_false ha, if_neg (by simp)]
   by_cases hb : (57343 : Int) < (r : Int)
   ·rw [if_pos hb]
    by_cases hc : (r : Int) ≤ 1114111
    ·rw [if_pos hc, decide_eq_true (Or.inr ⟨hb, hc⟩)]
    ·rw [if_neg hc, decide_eq_false (by omega)]
   ·rw [if_neg hb, decide_eq_false (by omega)])
 have HV' := Aside0.mk HV
 clear HV
 have HB := Aside0.mk (Below.refl w.heap.size w)
 cases hv : Utf8.valid (r : Int) with
 | false =>
  rw [hv] at HV'
  go_enter Try.func49, Try.ntmps49
  go_wp2_with (first | (go_at_call 53; refine (HV'.out _).mono ?_; rintro e w' ⟨rfl, ⟨nd, rfl⟩⟩))
  go_ret
  exact ⟨rfl, pw_below_drewN (Below.refl _ _) nd⟩
 | true =>
  rw [hv] at HV'
  obtain ⟨e2, e4, elast⟩ := encode_facts (r : Int) hv (by omega)
  obtain ⟨t, ht⟩ : ∃ t, t = Utf8.encode (r : Int) := ⟨_, rfl⟩
  have hcv : ∀ w : World, (convert 21 9 (.int .i32 (r : Int))).run Try.prog w = .ok (.string t) w := fun w => by rw [ht]; exact run_convert_int_string w 21 9 .i32 (r : Int) rfl rfl
  rw [← ht] at e2 e4 elast
  clear ht
  obtain ⟨n, hn⟩ : ∃ n, n = t.size - 1 := ⟨_, rfl⟩
  have hnt : n < t.size := by omega
  have hl : Aside0 (128 ≤ (t[n]'hnt).toNat) := ⟨by have := elast (by omega); simp only [← hn] at this; exact this⟩
  have hn1 : (t.size : Int) - 1 = (n : Int) := by omega
  have hns : n < s.size := by omega
  have hne : Aside0 ((s[n]'hns).toNat < 128) := ⟨hs _ (by
   have : s[n]'hns = s.data.toList[n]'(by simpa using hns) := by cases s; rfl
   rw [this]; exact List.getElem_mem _)⟩
  obtain ⟨m, hm⟩ : ∃ m, m = n + 1 := ⟨_, rfl⟩
  have hw : wrap64 ((n : Int) + 1) = (m : Int) := by rw [hm]; unfold wrap64; omega
  have k1 := eq_true (show m ≤ s.size from by omega)
  have k2 := eq_true (show (m : Int) ≤ (s.size : Int) from by omega)
  have HC : ∀ w : World, Calls Try.prog 52 #[.string (s.extract m s.size), .int .u8 ((t[n]'hnt).toNat : Int)] w fun e w' => e = .returned (.int .i64 (-1)) ∧ Drawn0 w w' := fun w => by
   have h := strings_IndexByte.goes (s.extract m s.size) ((t[n]'hnt).toNat : Int) w
   rw [show ((t[n]'hnt).toNat : Int).toNat.toUInt8 = t[n]'hnt from by simp, firstIdx_ascii s m s.size _ hs hl.out] at h
   exact h
  have HC' := Aside0.mk HC
  clear hn elast hm HC
  go_enter Try.func49, Try.ntmps49
  go_wp2_with (first | (go_at_call 53; refine (HV'.out _).mono ?_; rintro e w' ⟨rfl, ⟨nd, rfl⟩⟩))
  have HB' := Aside0.mk (pw_below_drewN HB.out nd)
  clear HB
  generalize w.drewN nd = w1 at HB' ⊢
  refine Arr.wp_scope_once 1 (fun _ _ => False) (fun _ _ => 0) rfl (fun _ => ?_) (fun _ _ h => h.elim)
  go_wp2
  go_loopw [9] (fun i wr => i = .int .i64 (n : Int) ∧ Aside0 (Below w.heap.size w wr)) (fun _ _ => 0)
  case atStart => exact ⟨rfl, HB'⟩
  case round =>
   clear HB'
   obtain ⟨rfl, HB⟩ := hrel
   have d3 : decide ((n : Int) < (s.size : Int)) = true := decide_eq_true (by omega)
   have d4 : decide (n < s.size) = true := decide_eq_true (by omega)
   go_wp2
   refine Arr.wp_scope_once 0 (fun _ _ => False) (fun _ _ => 0) rfl (fun _ => ?_) (fun _ _ h => h.elim)
   go_wp2
   have HB' := Aside0.mk (below_drew HB.out); clear HB; have HB := HB'; clear HB'
   refine start_ (n := 7) (S := fun w' => True) (ds := []) #[false, false, false, false, false, false, false] (by kernel_rfl) rfl rfl trivial (fun hHeld => ?_)
   generalize wr.drew = wd901 at HB hHeld ⊢
   refine Cz.rP 0 27 ?_
   refine Cz.rP 1 28 ?_
   refine Cz.rP 3 30 ?_
   refine Cz.rP 4 31 ?_
   refine take_ (i := 2) (N := some 29) (v := ?_) (a' := ?_) #[true, true, true, true, true, false, false] rfl rfl (by kernel_rfl) (fun _ _ _ h => h) (Or.inl ⟨by rfl, ?_⟩) hHeld ?_ ?_
   rotate_left
   ·rintro w' _
    go_simp
    with_reducible rfl
   rotate_left
   ·simp only [Act.put, Kx.sb, Kx.sz, Kx.ss, i64_w, i32_w]
    rfl
   refine take_ (i := 5) (N := some 32) (v := ?_) (a' := ?_) #[true, true, true, true, true, true, false] rfl rfl (by kernel_rfl) (fun _ _ _ h => h) (Or.inl ⟨by rfl, ?_⟩) hHeld ?_ ?_
   rotate_left
   ·rintro w' _
    go_simp
    with_reducible rfl
   rotate_left
   ·simp only [Act.put, Kx.sb, Kx.sz, Kx.ss, i64_w, i32_w]
    rfl
   refine Cz.rP 6 33 ?_
   refine done_ (by kernel_rfl) ?_
   have d5 : (((s[n]'hns).toNat : Int) != ((t[n]'hnt).toNat : Int)) = true := by have := hne.out; have := hl.out; simp; omega
   go_wp2
   have HB' := Aside0.mk (below_drew HB.out); clear HB; have HB := HB'; clear HB'
   refine start_ (n := 9) (S := fun w' => True) (ds := []) #[false, false, false, false, false, false, false, false, false] (by kernel_rfl) rfl rfl trivial (fun hHeld => ?_)
   generalize wd901.drew = wd911 at HB hHeld ⊢
   refine Cz.rP 0 34 ?_
   refine Cz.rP 1 35 ?_
   refine Cz.rP 2 36 ?_
   refine Cz.rP 3 37 ?_
   refine Cz.rP 4 38 ?_
   refine Cz.rP 5 39 ?_
   refine take_ (i := 6) (N := some 40) (v := ?_) (a' := ?_) #[true, true, true, true, true, true, true, false, false] rfl rfl (by kernel_rfl) (fun _ _ _ h => h) (Or.inl ⟨by rfl, ?_⟩) hHeld ?_ ?_
   rotate_left
   ·rintro w' _
    go_simp
    with_reducible rfl
   rotate_left
   ·simp only [Act.put, Kx.sb, Kx.sz, Kx.ss, i64_w, i32_w]
    rfl
   refine Cz.rO (N := some 41) 7 (fun K hK => ?_)
   refine goes_ Try.func52 (by kernel_rfl) rfl #[.string (s.extract m s.size), .int .u8 ((t[n]'hnt).toNat : Int)] (by rfl) rfl rfl (by simp only [List.map_toArray, List.map_cons, List.map_nil]; rfl) ?_
   refine (HC'.out _).mono ?_
   rintro e w91107 ⟨rfl, ⟨nd, rfl⟩⟩
   refine ⟨_, rfl, ?_⟩
   have HB' := Aside0.mk (pw_below_drewN HB.out nd); clear HB; have HB := HB'; clear HB'
   refine hK.out _ _ trivial (fun hHeld => ?_)
   clear hK K
   refine norm_ (a' := ?_) ?_ ?_
   rotate_left
   ·show Act.put _ (some 41) _ = _
    simp only [Act.put, Kx.sb, Kx.sz, Kx.ss, i64_w, i32_w]
    rfl
   refine Cz.rP 8 11 ?_
   refine done_ (by kernel_rfl) ?_
   go_wp2
   simp only [Exit.jump]
   (try go_wp2)
   (try simp only [Exit.jump])
   go_ret
   exact ⟨rfl, HB.out⟩
def le_size.f (a0 : Int) : Option Int := if 0 ≤ a0 ∧ a0 ≤ 2147483647 then some (Pl.letS a0) else none
theorem le_size.place (a0 : Int) (h0 : 0 ≤ a0) (h1 : a0 ≤ 2147483647) : ∃ i : Int, ((i = 0 ∧ Pl.letS a0 = 1) ∨ (i = 1 ∧ Pl.letS a0 = 2) ∨ (i = 2 ∧ Pl.letS a0 = 4) ∨ (i = 3 ∧ Pl.letS a0 = 8) ∨ (i = -1 ∧ Pl.letS a0 = 0)) ∧
  ∀ w : World, Calls Try.prog 49 #[.string Pl.bhwq, .int .i32 a0] w fun e w' => e = .returned (.int .i64 i) ∧ Below w.heap.size w w' := by
 obtain ⟨r, rfl⟩ := Int.eq_ofNat_of_zero_le h0
 by_cases hl : r < 128
 ·refine ⟨firstIdx Pl.bhwq (r : Int).toNat.toUInt8, ?_, fun w => strings_IndexRune.low Pl.bhwq r w h0 (by omega)⟩
  have h := Pl.bhwq_at ⟨r, hl⟩
  rw [Int.toNat_natCast]
  simp only at h
  rw [h]
  unfold Pl.letS
  by_cases h98 : r = 98
  ·subst h98; exact Or.inl ⟨rfl, rfl⟩
  by_cases h104 : r = 104
  ·subst h104; exact Or.inr (Or.inl ⟨rfl, rfl⟩)
  by_cases h119 : r = 119
  ·subst h119; exact Or.inr (Or.inr (Or.inl ⟨rfl, rfl⟩))
  by_cases h113 : r = 113
  ·subst h113; exact Or.inr (Or.inr (Or.inr (Or.inl ⟨rfl, rfl⟩)))
  rw [if_neg h98, if_neg h104, if_neg h119, if_neg h113, if_neg (by omega), if_neg (by omega), if_neg (by omega), if_neg (by omega)]
  exact Or.inr (Or.inr (Or.inr (Or.inr ⟨rfl, rfl⟩)))
 ·refine ⟨-1, Or.inr (Or.inr (Or.inr (Or.inr ⟨rfl, ?_⟩))), fun w => ?_⟩
  ·unfold Pl.letS
   rw [if_neg (by omega), if_neg (by omega), if_neg (by omega), if_neg (by omega)]
  ·by_cases he : r = 65533
   ·subst he
    exact strings_IndexRune.none' Pl.bhwq w Pl.bhwq_get
   ·exact strings_IndexRune.high Pl.bhwq r w Pl.bhwq_ascii (by decide) (by decide) (by omega) (by omega) he
set_option maxHeartbeats 2000000 in
theorem le_size.calls (a0 : Int) (r : Int) (w : World) (h : le_size.f a0 = some r) :
  Calls Try.prog 35 #[.int .i32 a0] w fun e w' => e = .returned (.int .i64 r) ∧ Below w.heap.size w w' := by
 unfold le_size.f at h
 split at h
 case isFalse => cases h
 rename_i hh
 obtain ⟨h0, h1⟩ := hh
 obtain rfl := Option.some.inj h
 clear h
 obtain ⟨i, hi, HC⟩ := le_size.place a0 h0 h1
 obtain ⟨z, hz⟩ : ∃ z, z = Pl.letS a0 := ⟨_, rfl⟩
 rw [← hz] at hi ⊢
 clear hz
 unfold Pl.bhwq at HC
 have HC' := Aside0.mk HC
 clear HC h0 h1
 rcases hi with ⟨rfl, rfl⟩ | ⟨rfl, rfl⟩ | ⟨rfl, rfl⟩ | ⟨rfl, rfl⟩ | ⟨rfl, rfl⟩ <;>
 ·go_enter Try.func35, Try.ntmps35
  go_wp2_with (first | (go_at_call 49; refine (HC'.out _).mono ?_; rintro e w' ⟨rfl, hb⟩; have HB := Aside0.mk hb; clear hb))
  go_ret
  exact ⟨rfl, HB.out⟩
def bytes_Clone.f (l0 : List Int) : Option (List Int) := if l0.length < 140737488355328 then some l0 else none
set_option maxHeartbeats 1000000 in
theorem bytes_Clone.calls (A0 : Option Addr) (c0 : Nat) (l0 : List Int) (r : List Int) (w : World) (hr0 : Kd.C (Kd.int .u8) w A0 l0.length l0) (hc0 : l0.length ≤ c0) (h : bytes_Clone.f l0 = some r) :
  Calls Try.prog 25 #[.slice A0 l0.length c0] w fun e w' => ∃ v0_ : Value, e = .returned (v0_) ∧ Kd.R (Kd.int .u8) 5 w' w.heap.size (fun _ => True) v0_ r ∧ Below w.heap.size w w' := by
 have HR0 := Aside0.mk hr0
 clear hr0 hc0
 unfold bytes_Clone.f at h
 by_cases hl : l0.length < 140737488355328
 ·rw [if_pos hl] at h
  obtain rfl := Option.some.inj h
  have HL := Aside0.mk hl
  clear h hl
  have HB := Aside0.mk (Below.refl w.heap.size w)
  cases A0 with
  | none =>
   obtain rfl : l0 = [] := by
    cases l0 with
    | nil => rfl
    | cons x xs => obtain ⟨ad, h, _⟩ := HR0.out.2.2 (by simp); cases h
   have hq := fun (w : World) => Lib.run_eql_slice_nil (P := Try.prog) w 23 5 none 0 c0 0 0 Try.underlying23
   simp only [List.length_nil]
   go_enter Try.func25, Try.ntmps25
   go_wp2
   go_ret
   exact ⟨_, rfl, Kd.R_nil _ _ _ _ _, Below.refl _ _⟩
  | some ad =>
   have hq := fun (w : World) => Lib.run_eql_slice_nil (P := Try.prog) w 23 5 (some ad) l0.length c0 0 0 Try.underlying23
   go_enter Try.func25, Try.ntmps25
   go_wp2_with (first | ((with_reducible refine gate_dst (N := 5) rfl ?_); refine Kd.R_lit (Kd.int .u8) _ 5 ?hg (N := 5) ?hd (xs := ([] : List Int)) (inner := []) (ok := fun _ => True) (okp := fun _ => True) ?hr ?hp (fun _ hk => hk) trivial (Below.refl _ _) (Nat.le_refl _) (by simp) ?_; (case hd => rfl); (case hg => rfl); (case hr => first | (go_simp; done) | (go_simp; rfl)); (case hp => exact (Reps.none _ _)); intro v110 w13 ho14 hb hg_ hnew_; clear hg_ hnew_; have HO111 := Aside0.mk (Kd.R_lower ho14 (below_size HB.out)); replace HB := Cz.bs (w := w) hb; clear hb ho14) | ((with_reducible refine gate_builtin (b := .append) (xs := #[.tmp 5, .tmp 6]) rfl ?_); at_builtin; refine Kd.R_append_rows (Kd.int .u8) (w0 := w) w.heap.size rfl (.tmp 5) (.tmp 6) 23 5 (.int .u8 0) 1 rfl Try.underlying23 info5 rfl (by decide) (by omega) v110 [] l0 _ _ _ (fun _ => True) (fun _ => False) rfl rfl ?aO ?aR (fun _ _ h => h) (fun _ h => h.elim) ?aF ?aB ?aS ?aL ?_; (case aR => exact Cz.cb HR0); (case aB => exact HB.out); (case aF => exact (fun _ _ => trivial)); (case aO => exact HO111.out); (case aS => exact below_size HB.out); (case aL => have := HL.out; simp; omega); intro v113 w15 ho hb hg hat; have HO114 := Aside0.mk (ho); replace HB := Aside0.mk (hb); clear HO111; clear ho hb hg hat))
   go_ret
   exact ⟨_, rfl, HO114.out, HB.out⟩
 ·rw [if_neg hl] at h
  cases h
def le_may.f (a0 : Int) (a1 : Int) : Option (Bool) := if a1 = 1 then (if 0 ≤ (wrap64 (8 * a1)) then (some ((shr .u64 a0 (wrap64 (8 * a1))) == 0)) else (none)) else (if a1 = 2 then (if 0 ≤ (wrap64 (8 * a1)) then (some ((shr .u64 a0 (wrap64 (8 * a1))) == 0)) else (none)) else (if a1 = 4 then (if 0 ≤ (wrap64 (8 * a1)) then (some ((shr .u64 a0 (wrap64 (8 * a1))) == 0)) else (none)) else (some (a1 == 8))))
set_option maxHeartbeats 8000000 in
set_option maxRecDepth 100000 in
theorem le_may.calls (a0 : Int) (a1 : Int) (r : Bool) (w : World) (h : le_may.f a0 a1 = some r) :
  Calls Try.prog 48 #[.int .u64 a0, .int .i64 a1] w fun e w' => e = .returned (.bool r) ∧ Drawn0 w w' := by
 have H : (if a1 = 1 then (if 0 ≤ (wrap64 (8 * a1)) then (some ((shr .u64 a0 (wrap64 (8 * a1))) == 0)) else (none)) else (if a1 = 2 then (if 0 ≤ (wrap64 (8 * a1)) then (some ((shr .u64 a0 (wrap64 (8 * a1))) == 0)) else (none)) else (if a1 = 4 then (if 0 ≤ (wrap64 (8 * a1)) then (some ((shr .u64 a0 (wrap64 (8 * a1))) == 0)) else (none)) else (some (a1 == 8))))) = some r := h
 clear h
 by_cases c3 : a1 = 1
 ·rw [if_pos c3] at H
  have c3b0 : (a1 == 1) = true := beq_iff_eq.mpr c3
  have c3b1 : (a1 != 1) = false := bne_eq_false_iff_eq.mpr c3
  clear c3
  obtain ⟨ji4, hji4⟩ : ∃ j_ : Int, (wrap64 (8 * a1)) = j_ := ⟨_, rfl⟩
  replace H : (if 0 ≤ (ji4) then (some ((shr .u64 a0 (ji4)) == 0)) else (none)) = some r := by first | (rw [hji4] at H; exact H) | (simp only [hji4] at H ⊢; exact H)
  have hji4w : (IntKind.i64.wrap (8 * a1)) = ji4 := (i64_w _).trans hji4
  by_cases c5 : 0 ≤ (ji4)
  ·rw [if_pos c5] at H
   have c5b0 := eq_true c5
   have c5b1 : decide (0 ≤ (ji4)) = true := decide_eq_true c5
   clear c5
   obtain ⟨ji6, hji6⟩ : ∃ j_ : Int, (shr .u64 a0 (ji4)) = j_ := ⟨_, rfl⟩
   replace H : (some ((ji6) == 0)) = some r := by first | (rw [hji6] at H; exact H) | (simp only [hji6] at H ⊢; exact H)
   have hji6_ : (a0 / 2 ^ min (ji4).toNat 64) = ji6 := hji6
   have hji6z : (ji4) ≤ 64 → (a0 / 2 ^ (ji4).toNat) = ji6 := shr_small hji6
   obtain rfl := Option.some.inj H
   go_enter Try.func48, Try.ntmps48
   go_wp2
   go_ret
   exact ⟨by first | rfl | (simp; done) | (simp only [← hji4, ← hji6] <;> (first | rfl | simp)) | (simp [*]; done), by repeat (first | exact Drawn0.refl _ | apply Drawn0.step)⟩
  ·rw [if_neg c5] at H
   exact absurd H (by simp)
 ·rw [if_neg c3] at H
  have c3b0 : (a1 == 1) = false := beq_eq_false_iff_ne.mpr c3
  have c3b1 : (a1 != 1) = true := bne_iff_ne.mpr c3
  by_cases c7 : a1 = 2
  ·rw [if_pos c7] at H
   have c7b0 : (a1 == 2) = true := beq_iff_eq.mpr c7
   have c7b1 : (a1 != 2) = false := bne_eq_false_iff_eq.mpr c7
   clear c7
   obtain ⟨ji8, hji8⟩ : ∃ j_ : Int, (wrap64 (8 * a1)) = j_ := ⟨_, rfl⟩
   replace H : (if 0 ≤ (ji8) then (some ((shr .u64 a0 (ji8)) == 0)) else (none)) = some r := by first | (rw [hji8] at H; exact H) | (simp only [hji8] at H ⊢; exact H)
   have hji8w : (IntKind.i64.wrap (8 * a1)) = ji8 := (i64_w _).trans hji8
   by_cases c9 : 0 ≤ (ji8)
   ·rw [if_pos c9] at H
    have c9b0 := eq_true c9
    have c9b1 : decide (0 ≤ (ji8)) = true := decide_eq_true c9
    clear c9
    obtain ⟨ji10, hji10⟩ : ∃ j_ : Int, (shr .u64 a0 (ji8)) = j_ := ⟨_, rfl⟩
    replace H : (some ((ji10) == 0)) = some r := by first | (rw [hji10] at H; exact H) | (simp only [hji10] at H ⊢; exact H)
    have hji10_ : (a0 / 2 ^ min (ji8).toNat 64) = ji10 := hji10
    have hji10z : (ji8) ≤ 64 → (a0 / 2 ^ (ji8).toNat) = ji10 := shr_small hji10
    obtain rfl := Option.some.inj H
    go_enter Try.func48, Try.ntmps48
    go_wp2
    go_ret
    exact ⟨by first | rfl | (simp; done) | (simp only [← hji8, ← hji10] <;> (first | rfl | simp)) | (simp [*]; done), by repeat (first | exact Drawn0.refl _ | apply Drawn0.step)⟩
   ·rw [if_neg c9] at H
    exact absurd H (by simp)
  ·rw [if_neg c7] at H
   have c7b0 : (a1 == 2) = false := beq_eq_false_iff_ne.mpr c7
   have c7b1 : (a1 != 2) = true := bne_iff_ne.mpr c7
   by_cases c11 : a1 = 4
   ·rw [if_pos c11] at H
    have c11b0 : (a1 == 4) = true := beq_iff_eq.mpr c11
    have c11b1 : (a1 != 4) = false := bne_eq_false_iff_eq.mpr c11
    clear c11
    obtain ⟨ji12, hji12⟩ : ∃ j_ : Int, (wrap64 (8 * a1)) = j_ := ⟨_, rfl⟩
    replace H : (if 0 ≤ (ji12) then (some ((shr .u64 a0 (ji12)) == 0)) else (none)) = some r := by first | (rw [hji12] at H; exact H) | (simp only [hji12] at H ⊢; exact H)
    have hji12w : (IntKind.i64.wrap (8 * a1)) = ji12 := (i64_w _).trans hji12
    by_cases c13 : 0 ≤ (ji12)
    ·rw [if_pos c13] at H
     have c13b0 := eq_true c13
     have c13b1 : decide (0 ≤ (ji12)) = true := decide_eq_true c13
     clear c13
     obtain ⟨ji14, hji14⟩ : ∃ j_ : Int, (shr .u64 a0 (ji12)) = j_ := ⟨_, rfl⟩
     replace H : (some ((ji14) == 0)) = some r := by first | (rw [hji14] at H; exact H) | (simp only [hji14] at H ⊢; exact H)
     have hji14_ : (a0 / 2 ^ min (ji12).toNat 64) = ji14 := hji14
     have hji14z : (ji12) ≤ 64 → (a0 / 2 ^ (ji12).toNat) = ji14 := shr_small hji14
     obtain rfl := Option.some.inj H
     go_enter Try.func48, Try.ntmps48
     go_wp2
     go_ret
     exact ⟨by first | rfl | (simp; done) | (simp only [← hji12, ← hji14] <;> (first | rfl | simp)) | (simp [*]; done), by repeat (first | exact Drawn0.refl _ | apply Drawn0.step)⟩
    ·rw [if_neg c13] at H
     exact absurd H (by simp)
   ·rw [if_neg c11] at H
    have c11b0 : (a1 == 4) = false := beq_eq_false_iff_ne.mpr c11
    have c11b1 : (a1 != 4) = true := bne_iff_ne.mpr c11
    obtain rfl := Option.some.inj H
    go_enter Try.func48, Try.ntmps48
    go_wp2
    go_ret
    exact ⟨by first | rfl | (simp; done) | (simp [*]; done), by repeat (first | exact Drawn0.refl _ | apply Drawn0.step)⟩
mutual
def le_Take_p.j0 : Nat → List Int → Int → Int → Bool → Option (Int × List Int × Int)
 | 0, _, _, _, _ => none
 | k + 1, x0, x1, x4, x16 => if x16 = true then (some (0, ([] : List Int), 10)) else (le_Take_p.l0 k x0 x1 x4 x1 0)
def le_Take_p.l0 : Nat → List Int → Int → Int → Int → Int → Option (Int × List Int × Int)
 | 0, _, _, _, _, _ => none
 | k + 1, x0, x1, x4, x17, x18 => if x18 < x17 then (if 0 ≤ x18 then (if x18 < (x0.length : Int) then (if 0 ≤ (wrap64 (8 * x18)) then (le_Take_p.l0 k x0 x1 (Go.bits .or .u64 x4 (shl .u64 (IntKind.u64.wrap (rd x0 x18)) (wrap64 (8 * x18)))) x17 (wrap64 (x18 + 1))) else (none)) else (none)) else (none)) else (if 0 ≤ x1 then (if x1 ≤ (x0.length : Int) then ((bytes_Clone.f (x0.drop (x1 : Int).toNat)).bind fun t108 => (some (x4, t108, 0))) else (none)) else (none))
end
def le_Take_p.f (k : Nat) (l0 : List Int) (a1 : Int) : Option (Int × List Int × Int) := (le_may.f 0 a1).bind fun t105 => (if t105 = true then (le_Take_p.j0 k l0 a1 0 (decide ((l0.length : Int) < a1))) else (le_Take_p.j0 k l0 a1 0 true))
set_option maxHeartbeats 8000000 in
set_option maxRecDepth 100000 in
theorem le_Take_p.calls (k : Nat) (A0 : Option Addr) (c0 : Nat) (l0 : List Int) (a1 : Int) (r1 : Int) (r2 : List Int) (r3 : Int) (w : World) (hr0 : Kd.C (Kd.int .u8) w A0 l0.length l0) (hc0 : l0.length ≤ c0) (h : le_Take_p.f k l0 a1 = some (r1, r2, r3)) :
  Calls Try.prog 40 #[.slice A0 l0.length c0, .int .i64 a1] w fun e w' => ∃ v1_ : Value, e = .returned (.tuple #[.int .u64 r1, v1_, .int .i64 r3]) ∧ Kd.R (Kd.int .u8) 5 w' w.heap.size (fun _ => True) v1_ r2 ∧ Below w.heap.size w w' := by
 have HR0 := Aside0.mk hr0
 have HC0 := Aside0.mk hc0
 clear hr0 hc0
 have HB := Aside0.mk (Below.refl w.heap.size w)
 have H : ((le_may.f 0 a1).bind fun t105 => (if t105 = true then (le_Take_p.j0 k l0 a1 0 (decide ((l0.length : Int) < a1))) else (le_Take_p.j0 k l0 a1 0 true))) = some (r1, r2, r3) := h
 clear h
 have HC3 := Aside0.mk H
 clear H
 go_enter Try.func40, Try.ntmps40
 go_upto_region 1 with (fail)
 go_cut [16] (fun v16 wc => ∃ (kq : Nat) (x16_2 : Bool), v16 = .bool x16_2 ∧ Aside0 (le_Take_p.j0 kq l0 a1 0 x16_2 = some (r1, r2, r3)) ∧ Aside0 (kq ≤ k) ∧ Aside0 (Below w.heap.size w wc))
 case first =>
  have H := HC3.out
  clear HC3
  replace H := Option.bind_eq_some_iff.mp H
  obtain ⟨t105, A40, H⟩ := H
  (try dsimp only at H)
  have A4 := Aside0.mk A40
  clear A40
  by_cases c5 : t105 = true
  ·subst c5
   rw [if_pos rfl] at H
   have H' := Aside0.mk H
   clear H
   go_wp2_with (first | ((with_reducible refine gate_callee (f := 48) rfl ?_); refine Cz.gL (N := (some 9)) Try.func48 #[.int .u64 0, .int .i64 a1] ?_; (with_reducible refine (le_may.calls 0 a1 true _ A4.out).mono ?_); rintro e w' ⟨rfl, ⟨nd, rfl⟩⟩; refine ⟨_, rfl, ?_⟩))
   go_meet
   case rel => exact ⟨_, (decide ((l0.length : Int) < a1)), Cz.si, H', ⟨by first | omega | exact Nat.le_refl _⟩, ⟨Cz.bl (w := w)⟩⟩
  ·replace c5 := Bool.eq_false_iff.mpr c5
   subst c5
   rw [if_neg (show ¬ (false = true) by decide)] at H
   have H' := Aside0.mk H
   clear H
   go_wp2_with (first | ((with_reducible refine gate_callee (f := 48) rfl ?_); refine Cz.gL (N := (some 9)) Try.func48 #[.int .u64 0, .int .i64 a1] ?_; (with_reducible refine (le_may.calls 0 a1 false _ A4.out).mono ?_); rintro e w' ⟨rfl, ⟨nd, rfl⟩⟩; refine ⟨_, rfl, ?_⟩))
   go_meet
   case rel => exact ⟨_, (true), Cz.si, H', ⟨by first | omega | exact Nat.le_refl _⟩, ⟨Cz.bl (w := w)⟩⟩
 case rest =>
  clear HC3
  try clear p2
  try clear c4
  try clear c5
  obtain ⟨kq, x16_2, rfl, HA, HJ2, HB⟩ := hcut
  cases kq with
  | zero => exact absurd HA.out (by simp [le_Take_p.j0])
  | succ kj2 =>
   have H := HA.out
   clear HA
   simp only [le_Take_p.j0] at H
   by_cases c6 : x16_2 = true
   ·subst c6
    rw [if_pos rfl] at H
    simp only [Option.some.injEq, Prod.mk.injEq] at H
    obtain ⟨rfl, rfl, rfl⟩ := H
    go_wp2
    go_ret3
    exact ⟨_, Cz.er, by first | exact Kd.R_nil _ _ _ _ _ | exact Kd.N_nil _ _ _ _ _ | exact Kd.V_nil _ _ _ _ _ | exact Kd.Q_nil _ _ _ _ _ | exact Kd.S_nil _ _ _ _ _, Cz.bl (w := w)⟩
   ·replace c6 := Bool.eq_false_iff.mpr c6
    subst c6
    rw [if_neg (show ¬ (false = true) by decide)] at H
    have H' := Aside0.mk H
    clear H
    go_wp2
    go_loopg [4, 18] kj2 (fun kq v4 v18 w' => ∃ (x4_2 : Int) (x18_2 : Int), v4 = .int .u64 x4_2 ∧ v18 = .int .i64 x18_2 ∧ Aside0 (le_Take_p.l0 kq l0 a1 x4_2 a1 x18_2 = some (r1, r2, r3)) ∧ Aside0 (kq ≤ kj2) ∧ Aside0 (Below w.heap.size w w'))
    case atStart => exact ⟨(0), (0), Cz.si, Cz.si, H', ⟨Nat.le_refl _⟩, ⟨Cz.bl (w := w)⟩⟩
    case round =>
     clear H'
     try clear p2 p2
     try clear c4
     try clear c5
     try clear c6
     obtain ⟨x4_2, x18_2, rfl, rfl, HA, HK2, HB⟩ := hrel
     cases gk with
     | zero => exact absurd HA.out (by simp [le_Take_p.l0])
     | succ k2 =>
      have H := HA.out
      clear HA
      simp only [le_Take_p.l0] at H
      by_cases c7 : x18_2 < a1
      ·rw [if_pos c7] at H
       have c7b0 : decide (x18_2 < a1) = true := decide_eq_true c7
       clear c7
       by_cases c8 : 0 ≤ x18_2
       ·rw [if_pos c8] at H
        have c8b0 : decide (0 ≤ x18_2) = true := decide_eq_true c8
        clear c8
        by_cases c9 : x18_2 < (l0.length : Int)
        ·rw [if_pos c9] at H
         have c9b0 : decide (x18_2 < (l0.length : Int)) = true := decide_eq_true c9
         clear c9
         obtain ⟨ji10, hji10⟩ : ∃ j_ : Int, (wrap64 (8 * x18_2)) = j_ := ⟨_, rfl⟩
         replace H : (if 0 ≤ (ji10) then (le_Take_p.l0 k2 l0 a1 (Go.bits .or .u64 x4_2 (shl .u64 (IntKind.u64.wrap (rd l0 x18_2)) (ji10))) a1 (wrap64 (x18_2 + 1))) else (none)) = some (r1, r2, r3) := by first | (rw [hji10] at H; exact H) | (simp only [hji10] at H ⊢; exact H)
         have hji10w : (IntKind.i64.wrap (8 * x18_2)) = ji10 := (i64_w _).trans hji10
         by_cases c11 : 0 ≤ (ji10)
         ·rw [if_pos c11] at H
          have c11b0 := eq_true c11
          have c11b1 : decide (0 ≤ (ji10)) = true := decide_eq_true c11
          clear c11
          obtain ⟨ji12, hji12⟩ : ∃ j_ : Int, (shl .u64 (IntKind.u64.wrap (rd l0 x18_2)) (ji10)) = j_ := ⟨_, rfl⟩
          replace H : (le_Take_p.l0 k2 l0 a1 (Go.bits .or .u64 x4_2 (ji12)) a1 (wrap64 (x18_2 + 1))) = some (r1, r2, r3) := by first | (rw [hji12] at H; exact H) | (simp only [hji12] at H ⊢; exact H)
          have hji12_ : (IntKind.u64.wrap ((IntKind.u64.wrap (rd l0 x18_2)) * 2 ^ min (ji10).toNat 64)) = ji12 := hji12
          have hji12z : (ji10) ≤ 64 → (IntKind.u64.wrap ((IntKind.u64.wrap (rd l0 x18_2)) * 2 ^ (ji10).toNat)) = ji12 := shl_small hji12
          have H' := Aside0.mk H
          clear H
          have p106 : 0 ≤ (x18_2 : Int) := of_decide_eq_true (by first | (with_reducible assumption) | assumption)
          have q106 : x18_2 < (l0.length : Int) := of_decide_eq_true (by first | (with_reducible assumption) | assumption)
          obtain ⟨ad106, e106, hx106_0⟩ := Kd.at_int HR0.out x18_2 p106 q106
          cases e106
          replace hx106_0 := (HB.out.cell (World.block_lt_of_cell? w _ hx106_0)).trans hx106_0
          replace p106 := eq_true p106
          replace q106 := eq_true q106
          go_wp2
          go_roundg k2
          case measure => have := HJ2.out; have := HK2.out; omega
          case rel => exact ⟨(Go.bits .or .u64 x4_2 (ji12)), (wrap64 (x18_2 + 1)), (by first | rfl | (simp; done) | (simp only [← hji12] <;> (first | rfl | simp)) | (simp [*]; done)), Cz.si, H', ⟨by have := HJ2.out; have := HK2.out; omega⟩, ⟨Cz.bl (w := w)⟩⟩
         ·rw [if_neg c11] at H
          exact absurd H (by simp)
        ·rw [if_neg c9] at H
         exact absurd H (by simp)
       ·rw [if_neg c8] at H
        exact absurd H (by simp)
      ·rw [if_neg c7] at H
       have c7b0 : decide (x18_2 < a1) = false := decide_eq_false c7
       clear c7
       by_cases c13 : 0 ≤ a1
       ·rw [if_pos c13] at H
        have c13b0 := eq_true c13
        have c13b1 : decide (0 ≤ a1) = true := decide_eq_true c13
        clear c13
        by_cases c14 : a1 ≤ (l0.length : Int)
        ·rw [if_pos c14] at H
         have c14b0 := eq_true c14
         have c14b1 : decide (a1 ≤ (l0.length : Int)) = true := decide_eq_true c14
         clear c14
         replace H := Option.bind_eq_some_iff.mp H
         obtain ⟨t108, A150, H⟩ := H
         (try dsimp only at H)
         have A15 := Aside0.mk A150
         clear A150
         simp only [Option.some.injEq, Prod.mk.injEq] at H
         obtain ⟨rfl, rfl, rfl⟩ := H
         obtain ⟨i016, hi016, _, hsz16, _⟩ := info_parts info5
         obtain ⟨A16, hcut16, hA16, hC16⟩ := print_drop_of (P := Try.prog) (Value.int .u8) 0 23 5 .i64 Try.underlying23 hi016 hsz16 A0 c0 l0 a1 (of_decide_eq_true (by first | (with_reducible assumption) | assumption)) (of_decide_eq_true (by first | (with_reducible assumption) | assumption)) HC0.out
         have HR107 := Aside0.mk (Kd.C_of_reads (h1 := fun _ => rfl) (hA16 _ (Kd.reads_of_C HR0.out)))
         have HC107 := Aside0.mk hC16
         clear hA16 hC16 hi016 hsz16
         go_wp2_with (first | ((with_reducible refine gate_callee (f := 25) rfl ?_); refine goesL_ (some 36) rfl rfl Try.func25 (by kernel_rfl) rfl #[.slice A16 (l0.drop (a1 : Int).toNat).length (c0 - a1.toNat)] rfl (by (try simp only [List.map_toArray, List.map_cons, List.map_nil]); first | done | (rw [show (l0.drop (a1 : Int).toNat).length = (l0.length - a1.toNat) from List.length_drop] <;> rfl) | rfl | (simp only [List.length_drop, List.length_take]; rfl)) ?_; (with_reducible refine (bytes_Clone.calls _ _ (l0.drop (a1 : Int).toNat) t108 _ ?side1 ?side2 A15.out).mono ?_); (case side1 => exact Cz.cb HR107); (case side2 => exact HC107.out); rintro e w17 ⟨v109, rfl, ho0, hb⟩; refine ⟨_, rfl, ?_⟩; have HO110 := Aside0.mk (Kd.R_lower ho0 (below_size (Cz.bl (w := w)))); replace HB := Cz.bs (w := w) hb; (try clear hb); (try clear ho0)))
         go_ret3
         exact ⟨_, Cz.er, Cz.rh, Cz.bl (w := w)⟩
        ·rw [if_neg c14] at H
         exact absurd H (by simp)
       ·rw [if_neg c13] at H
        exact absurd H (by simp)
def le_Take.f (l0 : List Int) (a1 : Int) : Option (Int × List Int × Int) := if Pl.byteB l0 = true ∧ l0.length < 70368744177664 then some (Pl.takeS l0 a1) else none
theorem le_Take.may (s : Int) : le_may.f 0 s = some (Pl.okS s) := by
 unfold le_may.f
 by_cases h1 : s = 1
 ·subst h1
  rw [if_pos rfl, show (wrap64 (8 * 1)) = 8 from by unfold wrap64; omega, if_pos (by decide)]
  rfl
 by_cases h2 : s = 2
 ·subst h2
  rw [if_neg (by decide), if_pos rfl, show (wrap64 (8 * 2)) = 16 from by unfold wrap64; omega, if_pos (by decide)]
  rfl
 by_cases h4 : s = 4
 ·subst h4
  rw [if_neg (by decide), if_neg (by decide), if_pos rfl, show (wrap64 (8 * 4)) = 32 from by unfold wrap64; omega, if_pos (by decide)]
  rfl
 rw [if_neg h1, if_neg h2, if_neg h4]
 unfold Pl.okS
 simp [h1, h2, h4]
theorem le_Take.step (v b i : Nat) (hv : v < 2 ^ (8 * i)) (hb : b < 256) (hi : i < 8) : bits .or .u64 (v : Int) (shl .u64 (IntKind.u64.wrap (b : Int)) (wrap64 (8 * (i : Int)))) = ((2 ^ (8 * i) * b + v : Nat) : Int) := by
 have e1 : IntKind.u64.wrap (b : Int) = (b : Int) := by rw [IntKind.wrap_u64]; omega
 have e2 : wrap64 (8 * (i : Int)) = ((8 * i : Nat) : Int) := by unfold wrap64; omega
 have hp : 2 ^ (8 * i) * b < 18446744073709551616 := by
  have h1 : 2 ^ (8 * i) * 256 ≤ 2 ^ 64 := by
   rw [show (256 : Nat) = 2 ^ 8 from rfl, ← Nat.pow_add]
   exact Nat.pow_le_pow_right (by decide) (by omega)
  have h2 : 2 ^ (8 * i) * b < 2 ^ (8 * i) * 256 := Nat.mul_lt_mul_of_pos_left hb (Nat.two_pow_pos _)
  omega
 have h64 : 2 ^ (8 * i) ≤ 2 ^ 64 := Nat.pow_le_pow_right (by decide) (by omega)
 have hv64 : v < 18446744073709551616 := Nat.lt_of_lt_of_le hv h64
 unfold shl
 rw [e1, e2, Int.toNat_natCast, Nat.min_eq_left (show 8 * i ≤ IntKind.u64.bits from by show 8 * i ≤ 64; omega),
  show (b : Int) * 2 ^ (8 * i) = ((2 ^ (8 * i) * b : Nat) : Int) from by push_cast; rw [Int.mul_comm], IntKind.wrap_u64]
 obtain ⟨p, hpe⟩ : ∃ p, p = 2 ^ (8 * i) * b := ⟨_, rfl⟩
 rw [← hpe] at hp ⊢
 rw [show ((p : Nat) : Int) % 18446744073709551616 = (p : Int) from by omega, u64_or_nat v p hv64 hp, hpe, Nat.or_comm, Nat.two_pow_add_eq_or_of_lt hv b]
theorem le_Take.grow (l : List Int) (hb : Pl.byteB l = true) (i : Nat) (hi : i < l.length) : ∃ b : Nat, b < 256 ∧ rd l (i : Int) = (b : Int) ∧ Pl.leN (Pl.nats (l.take i)) < 2 ^ (8 * i) ∧ Pl.leN (Pl.nats (l.take (i + 1))) = 2 ^ (8 * i) * b + Pl.leN (Pl.nats (l.take i)) := by
 obtain ⟨b, hb8, hg, ht⟩ := Pl.byteB_at hb i hi
 have hn : ∀ j, Pl.nats (l.take j) = (Pl.nats l).take j := fun j => by unfold Pl.nats; rw [List.map_take]
 have hbt : Pl.Bytes ((Pl.nats l).take i) := Pl.bytes_take (Pl.byteB_bytes hb) i
 have hlen : ((Pl.nats l).take i).length = i := by rw [List.length_take, Pl.nats_length]; omega
 have hlt : Pl.leN (Pl.nats (l.take i)) < 2 ^ (8 * i) := by
  have := Pl.leN_lt _ hbt
  rw [hlen] at this
  rw [hn]
  exact this
 refine ⟨b, hb8, by unfold rd; rw [Int.toNat_natCast, hg], hlt, ?_⟩
 rw [Pl.add_eq_xor hlt, hn, hn, ht, Pl.leN_append _ _ hbt, hlen, Nat.xor_comm]
 congr 1
 simp [Pl.leN]
theorem le_Take.loop (l : List Int) (hb : Pl.byteB l = true) (s : Nat) (hs : s ≤ l.length) (hs8 : s ≤ 8) (hl : l.length < 70368744177664) : ∀ (d k i : Nat), i + d = s → d < k →
  le_Take_p.l0 k l (s : Int) ((Pl.leN (Pl.nats (l.take i)) : Nat) : Int) (s : Int) (i : Int) = some (((Pl.leN (Pl.nats (l.take s)) : Nat) : Int), l.drop s, 0)
 | 0, k, i, hi, hk => by
  obtain ⟨k, rfl⟩ : ∃ m, k = m + 1 := ⟨k - 1, by omega⟩
  obtain rfl : i = s := by omega
  simp only [le_Take_p.l0]
  unfold bytes_Clone.f
  rw [if_neg (by omega), if_pos (by omega), if_pos (by omega), Int.toNat_natCast, if_pos (by rw [List.length_drop]; omega), Option.bind_some]
 | d + 1, k, i, hi, hk => by
  obtain ⟨k, rfl⟩ : ∃ m, k = m + 1 := ⟨k - 1, by omega⟩
  obtain ⟨b, hb8, hr, hlt, hgo⟩ := le_Take.grow l hb i (by omega)
  simp only [le_Take_p.l0]
  rw [if_pos (by omega), if_pos (by omega), if_pos (by omega), if_pos (by unfold wrap64; omega), hr, le_Take.step _ b i hlt hb8 (by omega), ← hgo, show wrap64 ((i : Int) + 1) = ((i + 1 : Nat) : Int) from by unfold wrap64; omega]
  exact le_Take.loop l hb s hs hs8 hl d k (i + 1) (by omega) (by omega)
theorem le_Take.tells {l0 : List Int} {a1 : Int} {r : Int × List Int × Int} (h : le_Take.f l0 a1 = some r) : le_Take_p.f 12 l0 a1 = some r := by
 unfold le_Take.f at h
 split at h
 case isFalse => cases h
 rename_i hh
 obtain ⟨h0, h1⟩ := hh
 obtain rfl := Option.some.inj h
 unfold le_Take_p.f
 rw [le_Take.may, Option.bind_some]
 unfold Pl.takeS
 by_cases hs : Pl.okS a1 = true
 ·obtain ⟨s, rfl⟩ := Int.eq_ofNat_of_zero_le (show 0 ≤ a1 from by rcases Pl.okS_iff.1 hs with h | h | h | h <;> omega)
  have hs8 : s ≤ 8 := by rcases Pl.okS_iff.1 hs with h | h | h | h <;> omega
  rw [if_pos hs]
  simp only [le_Take_p.j0]
  by_cases hl : (l0.length : Int) < (s : Int)
  ·rw [decide_eq_true hl, if_pos rfl, if_neg (by omega)]
  ·rw [decide_eq_false hl, if_neg (by decide), if_pos ⟨hs, by omega⟩, Int.toNat_natCast]
   exact le_Take.loop l0 h0 s (by omega) hs8 h1 s 11 0 (by omega) (by omega)
 ·rw [if_neg hs, if_neg (fun h => hs h.1)]
  simp only [le_Take_p.j0]
  rfl
theorem le_Take.calls (A0 : Option Addr) (c0 : Nat) (l0 : List Int) (a1 : Int) (r1 : Int) (r2 : List Int) (r3 : Int) (w : World) (hr0 : Kd.C (Kd.int .u8) w A0 l0.length l0) (hc0 : l0.length ≤ c0) (h : le_Take.f l0 a1 = some (r1, r2, r3)) :
  Calls Try.prog 40 #[.slice A0 l0.length c0, .int .i64 a1] w fun e w' => ∃ v1_ : Value, e = .returned (.tuple #[.int .u64 r1, v1_, .int .i64 r3]) ∧ Kd.R (Kd.int .u8) 5 w' w.heap.size (fun _ => True) v1_ r2 ∧ Below w.heap.size w w' :=
 le_Take_p.calls 12 A0 c0 l0 a1 r1 r2 r3 w hr0 hc0 (le_Take.tells h)
end Go.Proofs.Ytmgohkffphogdaa.PU
