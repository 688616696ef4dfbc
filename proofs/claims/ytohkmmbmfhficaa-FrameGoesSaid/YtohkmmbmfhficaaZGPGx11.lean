/- Words and walks that this claim names, of those that the kit's print and programs of this workplace have printed. -/
import Derived.Test.YtohkmmbmfhficaaProg
import Derived.Below
import Derived.Deep.Draws
import Derived.Deep.AppendLies
import Derived.Maps.AppendAt
import Derived.OwnWalk
import Derived.Laws.BytesArg
import Derived.Laws.MakeOwn
import Derived.Laws.OwnMore
import Derived.Deep.OwnRows
import Derived.Tactics
import Derived.Lib.ConvBytes
import Derived.Laws.Slices
import Derived.WalkKit
import Derived.KernelRfl
import Derived.RowKit3
import Derived.Deep.LoopGhost
import Derived.Deep.QuietTactic
import Derived.BigQuiet
import Derived.WideLaws
import Derived.Deep.DeepCutAuto
import Derived.Deep.CutBlock
import Derived.Deep.RegionHeld3
import Derived.Laws.Rows
import Derived.Lib.AppendStr
import Derived.ArgAppend
import Derived.Laws.IdiomCopy
import Derived.OrdersHeld
import Derived.Laws.BitsLemmas
import Derived.RowKit
import Derived.Lib.SliceRun
import Derived.Test.YtohkmmbmfhficaaZGStr
import Derived.Test.YtohkmmbmfhficaaZGKd
import Derived.Deep.DeepMust
import Derived.Test.YtohkmmbmfhficaaZGLe
import Derived.Test.YtohkmmbmfhficaaZGCrc
import Derived.Test.YtohkmmbmfhficaaZGArr
import Derived.Test.YtohkmmbmfhficaaZGFrm
import Derived.Test.YtohkmmbmfhficaaZGForm
import Derived.Handy
import Derived.Test.YtohkmmbmfhficaaZGWLast
import Derived.Laws.RangeAny
import Derived.Lib.OthersKept
import Derived.Laws.BitsAllLaws
import Derived.Laws.StandIn
import Derived.Laws.Runes
import Derived.Test.YtohkmmbmfhficaaZGWWords
import Derived.Test.YtohkmmbmfhficaaZGWTab
import Derived.Test.YtohkmmbmfhficaaZGWApart
import Derived.Test.YtohkmmbmfhficaaZGWFoot
import Derived.Test.YtohkmmbmfhficaaZGWKept
import Derived.Test.YtohkmmbmfhficaaZGWShare
import Derived.Test.YtohkmmbmfhficaaZGWN
import Derived.Test.YtohkmmbmfhficaaZGWRepsOne
import Derived.Test.YtohkmmbmfhficaaZGWGuard
import Derived.Test.YtohkmmbmfhficaaZGWNEv
import Derived.Test.YtohkmmbmfhficaaZGWMore
namespace Go.Proofs.Ytohkmmbmfhficaa.PG
open Go.RowKit Go.Proofs.YtohkmmbmfhficaaW.PrintWords Go.Proofs.YtohkmmbmfhficaaW.PrintLast Go.Proofs.YtohkmmbmfhficaaW.PrintMore
attribute [local go_sem] max2_int min2_int max_two min_two max_three min_three max_four min_four
set_option linter.unusedVariables false
set_option linter.unusedSimpArgs false
def errW : Option Int → Value
  | none => .nilIface
  | some c => .iface 0 (.int .i64 c)
theorem errW_none : errW none = .nilIface := rfl
theorem errW_some (c : Int) : errW (some c) = .iface 0 (.int .i64 c) := rfl
theorem info5 : (Try.prog.info? 5).map (fun i => (i.zero, i.size, i.bytes)) = some (some (.int .u8 0), 1, 1) := by kernel_rfl
theorem info38 : (Try.prog.info? 38).map (fun i => (i.zero, i.size, i.bytes)) = some (some (.agg #[(.int .i64 0), (.int .i64 0), (.int .i64 0), (.slice none 0 0), (.int .i64 0), (.int .i64 0), (.int .i64 0)]), 7, 72) := by kernel_rfl
theorem info68 : (Try.prog.info? 68).map (fun i => (i.zero, i.size, i.bytes)) = some (some (.int .u64 0), 1, 8) := by kernel_rfl
structure S38 where
  f0 : Int
  f1 : Int
  f2 : Int
  f3 : (List Int)
  f4 : Int
  f5 : Int
  f6 : Int
def z38 : S38 := ⟨(0 : Int), (0 : Int), (0 : Int), ([] : List Int), (0 : Int), (0 : Int), (0 : Int)⟩
def k38 : Kd S38 := Kd.iso (Kd.pair (Kd.int .i64) (Kd.pair (Kd.int .i64) (Kd.pair (Kd.int .i64) (Kd.pair (Kd.slice 5 (Kd.int .u8)) (Kd.pair (Kd.int .i64) (Kd.pair (Kd.int .i64) (Kd.int .i64))))))) (fun x : S38 => (x.f0, x.f1, x.f2, x.f3, x.f4, x.f5, x.f6))
theorem k38_open {w : World} {x : S38} {cs : List Value} (h : k38.K w x cs) : ∃ A3 c3, cs = [.int .i64 x.f0, .int .i64 x.f1, .int .i64 x.f2, .slice A3 x.f3.length c3, .int .i64 x.f4, .int .i64 x.f5, .int .i64 x.f6] ∧ x.f3.length ≤ c3 ∧ (Kd.int .u8).C w A3 x.f3.length x.f3 := by
  obtain ⟨_, _, rfl, rfl, ⟨_, _, rfl, rfl, ⟨_, _, rfl, rfl, ⟨_, _, rfl, ⟨A3, c3, rfl, l3, g3⟩, ⟨_, _, rfl, rfl, ⟨_, _, rfl, rfl, rfl⟩⟩⟩⟩⟩⟩ := h
  exact ⟨A3, c3, rfl, l3, g3⟩
theorem k38_mk (w : World) (x : S38) {A3 : Option Addr} {c3 : Nat} (l3 : x.f3.length ≤ c3) (g3 : (Kd.int .u8).C w A3 x.f3.length x.f3) : k38.K w x [.int .i64 x.f0, .int .i64 x.f1, .int .i64 x.f2, .slice A3 x.f3.length c3, .int .i64 x.f4, .int .i64 x.f5, .int .i64 x.f6] := ⟨[.int .i64 x.f0], [.int .i64 x.f1, .int .i64 x.f2, .slice A3 x.f3.length c3, .int .i64 x.f4, .int .i64 x.f5, .int .i64 x.f6], rfl, rfl, ⟨[.int .i64 x.f1], [.int .i64 x.f2, .slice A3 x.f3.length c3, .int .i64 x.f4, .int .i64 x.f5, .int .i64 x.f6], rfl, rfl, ⟨[.int .i64 x.f2], [.slice A3 x.f3.length c3, .int .i64 x.f4, .int .i64 x.f5, .int .i64 x.f6], rfl, rfl, ⟨[.slice A3 x.f3.length c3], [.int .i64 x.f4, .int .i64 x.f5, .int .i64 x.f6], rfl, ⟨A3, c3, rfl, l3, g3⟩, ⟨[.int .i64 x.f4], [.int .i64 x.f5, .int .i64 x.f6], rfl, rfl, ⟨[.int .i64 x.f5], [.int .i64 x.f6], rfl, rfl, rfl⟩⟩⟩⟩⟩⟩
theorem k38_openF {W : World} {ok : Nat → Prop} {x : S38} {cs : List Value} (h : Kd.FK k38 W ok x cs) : ∃ A3 c3, cs = [.int .i64 x.f0, .int .i64 x.f1, .int .i64 x.f2, .slice A3 x.f3.length c3, .int .i64 x.f4, .int .i64 x.f5, .int .i64 x.f6] ∧ x.f3.length ≤ c3 ∧ Kd.F (Kd.int .u8) W ok A3 x.f3.length x.f3 := by
  obtain ⟨A3, c3, rfl, l3, _⟩ := k38_open (Kd.FK_now h)
  exact ⟨A3, c3, rfl, l3, (fun W' hW => by obtain ⟨A3_, c3_, he, l3_, g3_⟩ := k38_open (h W' hW); injection (Option.some.inj (show some (Value.slice A3 x.f3.length c3) = some (Value.slice A3_ x.f3.length c3_) from congrArg (fun l => l[3]?) he)) with ha_ _ _; rw [ha_]; exact g3_)⟩
theorem k38_mkF (W : World) (ok : Nat → Prop) (x : S38) {A3 : Option Addr} {c3 : Nat} (l3 : x.f3.length ≤ c3) (g3 : Kd.F (Kd.int .u8) W ok A3 x.f3.length x.f3) : Kd.FK k38 W ok x [.int .i64 x.f0, .int .i64 x.f1, .int .i64 x.f2, .slice A3 x.f3.length c3, .int .i64 x.f4, .int .i64 x.f5, .int .i64 x.f6] := fun W2 hW => k38_mk W2 x l3 (g3 W2 hW)
def rd_T38 (xs : List S38) (i : Int) : S38 := xs.getD i.toNat z38
theorem at_T38 {w : World} {A : Option Addr} {n : Nat} {xs : List S38} (h : Kd.C k38 w A n xs) (i : Int) (h0 : 0 ≤ i) (h1 : i < n) : ∃ ad A3 c3, A = some ad ∧ w.cell? (ad.add (i.toNat * 7)) = some (.int .i64 (rd_T38 xs i).f0) ∧ w.cell? ⟨(ad.add (i.toNat * 7)).block, (ad.add (i.toNat * 7)).off + 1, none⟩ = some (.int .i64 (rd_T38 xs i).f1) ∧ w.cell? ⟨(ad.add (i.toNat * 7)).block, (ad.add (i.toNat * 7)).off + 2, none⟩ = some (.int .i64 (rd_T38 xs i).f2) ∧ w.cell? ⟨(ad.add (i.toNat * 7)).block, (ad.add (i.toNat * 7)).off + 3, none⟩ = some (.slice A3 (rd_T38 xs i).f3.length c3) ∧ w.cell? ⟨(ad.add (i.toNat * 7)).block, (ad.add (i.toNat * 7)).off + 4, none⟩ = some (.int .i64 (rd_T38 xs i).f4) ∧ w.cell? ⟨(ad.add (i.toNat * 7)).block, (ad.add (i.toNat * 7)).off + 5, none⟩ = some (.int .i64 (rd_T38 xs i).f5) ∧ w.cell? ⟨(ad.add (i.toNat * 7)).block, (ad.add (i.toNat * 7)).off + 6, none⟩ = some (.int .i64 (rd_T38 xs i).f6) ∧ (rd_T38 xs i).f3.length ≤ c3 ∧ (Kd.int .u8).C w A3 (rd_T38 xs i).f3.length (rd_T38 xs i).f3 := by
  obtain ⟨ad, c, e, _, hK, hc0⟩ := Kd.C_get h z38 i h0 h1
  have hc : ∀ j u, c[j]? = some u → w.cell? (ad.add (i.toNat * 7 + j)) = some u := hc0
  obtain ⟨A3, c3, rfl, l3, g3⟩ := k38_open hK
  exact ⟨ad, A3, c3, e, hc 0 _ rfl, by rw [← add_field _ _ 1 (by omega)]; exact hc 1 _ rfl, by rw [← add_field _ _ 2 (by omega)]; exact hc 2 _ rfl, by rw [← add_field _ _ 3 (by omega)]; exact hc 3 _ rfl, by rw [← add_field _ _ 4 (by omega)]; exact hc 4 _ rfl, by rw [← add_field _ _ 5 (by omega)]; exact hc 5 _ rfl, by rw [← add_field _ _ 6 (by omega)]; exact hc 6 _ rfl, l3, g3⟩
end Go.Proofs.Ytohkmmbmfhficaa.PG
namespace Go.Proofs.Ytohkmmbmfhficaa.PG
open Go.RowKit Go.Proofs.YtohkmmbmfhficaaW.PrintWords Go.Proofs.YtohkmmbmfhficaaW.PrintLast Go.Proofs.YtohkmmbmfhficaaW.PrintMore
attribute [local go_sem] max2_int min2_int max_two min_two max_three min_three max_four min_four
set_option linter.unusedVariables false
set_option linter.unusedSimpArgs false
def frame_within.f (a0 : Int) (a1 : Int) (a2 : Int) : Option (Bool) := if a0 ≥ a1 then (some (decide (a0 ≤ a2))) else (some false)
set_option maxHeartbeats 8000000 in
set_option maxRecDepth 100000 in
theorem frame_within.calls (a0 : Int) (a1 : Int) (a2 : Int) (r : Bool) (w : World) (h : frame_within.f a0 a1 a2 = some r) :
  Calls Try.prog 111 #[.int .i64 a0, .int .i64 a1, .int .i64 a2] w fun e w' => e = .returned (.bool r) ∧ Drawn0 w w' := by
 have H : (if a0 ≥ a1 then (some (decide (a0 ≤ a2))) else (some false)) = some r := h
 clear h
 by_cases c4 : a0 ≥ a1
 ·rw [if_pos c4] at H
  have c4b0 : decide (a1 ≤ a0) = true := decide_eq_true c4
  clear c4
  obtain rfl := Option.some.inj H
  go_enter Try.func111, Try.ntmps111
  go_wp2
  go_ret
  exact ⟨by first | rfl | (simp; done) | (simp [*]; done), by repeat (first | exact Drawn0.refl _ | apply Drawn0.step)⟩
 ·rw [if_neg c4] at H
  have c4b0 : decide (a1 ≤ a0) = false := decide_eq_false c4
  clear c4
  obtain rfl := Option.some.inj H
  go_enter Try.func111, Try.ntmps111
  go_wp2
  go_ret
  exact ⟨by first | rfl | (simp; done) | (simp [*]; done), by repeat (first | exact Drawn0.refl _ | apply Drawn0.step)⟩
def frame_head_may.f (a0_0 : Int) (a0_1 : Int) (a0_2 : Int) : Option (Bool) := (frame_within.f a0_0 1 64).bind fun t102 => (if t102 = true then ((frame_within.f a0_1 0 2147483647).bind fun t103 => (if t103 = true then ((frame_within.f a0_2 (wrap64 (a0_1 + 1)) 2147483647).bind fun t104 => (some t104)) else (some false))) else (some false))
set_option maxHeartbeats 8000000 in
set_option maxRecDepth 100000 in
theorem frame_head_may.calls (a0_0 : Int) (a0_1 : Int) (a0_2 : Int) (r : Bool) (w : World) (h : frame_head_may.f a0_0 a0_1 a0_2 = some r) :
  Calls Try.prog 109 #[.agg #[.int .i64 a0_0, .int .i64 a0_1, .int .i64 a0_2]] w fun e w' => e = .returned (.bool r) ∧ Below w.heap.size w w' := by
 have hu93 := Try.underlying93
 have HB := Aside0.mk (Below.refl w.heap.size w)
 have H : ((frame_within.f a0_0 1 64).bind fun t102 => (if t102 = true then ((frame_within.f a0_1 0 2147483647).bind fun t103 => (if t103 = true then ((frame_within.f a0_2 (wrap64 (a0_1 + 1)) 2147483647).bind fun t104 => (some t104)) else (some false))) else (some false))) = some r := h
 clear h
 replace H := Option.bind_eq_some_iff.mp H
 obtain ⟨t102, A20, H⟩ := H
 replace H : (if t102 = true then ((frame_within.f a0_1 0 2147483647).bind fun t103 => (if t103 = true then ((frame_within.f a0_2 (wrap64 (a0_1 + 1)) 2147483647).bind fun t104 => (some t104)) else (some false))) else (some false)) = some r := H
 have A2 := Aside0.mk A20
 clear A20
 by_cases c3 : t102 = true
 ·subst c3
  have H1 : ((frame_within.f a0_1 0 2147483647).bind fun t103 => (if t103 = true then ((frame_within.f a0_2 (wrap64 (a0_1 + 1)) 2147483647).bind fun t104 => (some t104)) else (some false))) = some r := by rw [if_pos rfl] at H <;> exact H
  clear H
  have H := H1
  clear H1
  replace H := Option.bind_eq_some_iff.mp H
  obtain ⟨t103, A40, H⟩ := H
  replace H : (if t103 = true then ((frame_within.f a0_2 (wrap64 (a0_1 + 1)) 2147483647).bind fun t104 => (some t104)) else (some false)) = some r := H
  have A4 := Aside0.mk A40
  clear A40
  by_cases c5 : t103 = true
  ·subst c5
   have H1 : ((frame_within.f a0_2 (wrap64 (a0_1 + 1)) 2147483647).bind fun t104 => (some t104)) = some r := by rw [if_pos rfl] at H <;> exact H
   clear H
   have H := H1
   clear H1
   replace H := Option.bind_eq_some_iff.mp H
   obtain ⟨t104, A60, H⟩ := H
   replace H : (some t104) = some r := H
   have A6 := Aside0.mk A60
   clear A60
   obtain rfl := Option.some.inj H
   go_enter Try.func109, Try.ntmps109
   go_wp2_with (first | ((with_reducible refine gate_dst (N := 1) rfl ?_); refine box_event ?hg (N := 1) ?hd (cs := #[.int .i64 a0_0, .int .i64 a0_1, .int .i64 a0_2]) (t := 93) ?hr ?_; (case hd => rfl); (case hg => rfl); (case hr => first | (go_simp; done) | (go_simp; rfl)); intro gb101 hg w7 hbox hb; have n0_ := Aside0.mk (below_step (by repeat (first | (with_reducible first | exact HB.out | apply below_alloc | apply pw_below_drewN | apply below_drew1) | exact HB.out)) hb); have n1_ := Aside0.mk (hbox); have n2_ := Aside0.mk ((by rw [hg]; exact (below_size (by repeat (first | (with_reducible first | exact HB.out | apply below_alloc | apply pw_below_drewN | apply below_drew1) | exact HB.out))) : w.heap.size ≤ gb101)); have n3_ := Aside0.mk ((by rw [hg]; exact (below_size (by repeat (first | (with_reducible first | exact HB.out | apply below_alloc | apply pw_below_drewN | apply below_drew1) | exact HB.out))) : w.heap.size ≤ gb101)); clear HB; have HB := n0_; have BK101 := n1_; have GW101 := n2_; have GE101 := n3_; clear n0_ n1_ n2_ n3_; clear hb hbox hg; have hcz8_0 : w7.cell? ⟨gb101, 0, none⟩ = some (.int .i64 a0_0) := (blk_cell BK101.out 0).trans rfl; have hcz8_1 : w7.cell? ⟨gb101, 1, none⟩ = some (.int .i64 a0_1) := (blk_cell BK101.out 1).trans rfl; have hcz8_2 : w7.cell? ⟨gb101, 2, none⟩ = some (.int .i64 a0_2) := (blk_cell BK101.out 2).trans rfl; have hfz8_0 := blk_frozen BK101.out 0; have hfz8_1 := blk_frozen BK101.out 1; have hfz8_2 := blk_frozen BK101.out 2) | ((with_reducible refine gate_callee (f := 111) rfl ?_); refine goesL_ (some 5) rfl rfl Try.func111 (by kernel_rfl) rfl #[.int .i64 a0_0, .int .i64 1, .int .i64 64] rfl (by (try simp only [List.map_toArray, List.map_cons, List.map_nil]); first | done | rfl | (simp only [List.length_drop, List.length_take]; rfl)) ?_; (with_reducible refine (frame_within.calls a0_0 1 64 true _ A2.out).mono ?_); rintro e w' ⟨rfl, ⟨nd, rfl⟩⟩; refine ⟨_, rfl, ?_⟩) | (go_at_call 111; (with_reducible refine (frame_within.calls a0_1 0 2147483647 true _ A4.out).mono ?_); rintro e w' ⟨rfl, ⟨nd, rfl⟩⟩) | (go_at_call 111; (with_reducible refine (frame_within.calls a0_2 (wrap64 (a0_1 + 1)) 2147483647 t104 _ A6.out).mono ?_); rintro e w' ⟨rfl, ⟨nd, rfl⟩⟩))
   go_ret
   exact ⟨by first | rfl | (simp [errW_none, errW_some] <;> rfl) | (simp [*, errW_none, errW_some] <;> rfl), by repeat (first | (with_reducible first | exact HB.out | apply below_alloc | apply pw_below_drewN | apply below_drew1 | refine below_set ?_ GE101.out) | exact HB.out)⟩
  ·replace c5 := Bool.eq_false_iff.mpr c5
   subst c5
   have H1 : (some false) = some r := by rw [if_neg (show ¬ (false = true) by decide)] at H <;> exact H
   clear H
   have H := H1
   clear H1
   obtain rfl := Option.some.inj H
   go_enter Try.func109, Try.ntmps109
   go_wp2_with (first | ((with_reducible refine gate_dst (N := 1) rfl ?_); refine box_event ?hg (N := 1) ?hd (cs := #[.int .i64 a0_0, .int .i64 a0_1, .int .i64 a0_2]) (t := 93) ?hr ?_; (case hd => rfl); (case hg => rfl); (case hr => first | (go_simp; done) | (go_simp; rfl)); intro gb101 hg w9 hbox hb; have n0_ := Aside0.mk (below_step (by repeat (first | (with_reducible first | exact HB.out | apply below_alloc | apply pw_below_drewN | apply below_drew1) | exact HB.out)) hb); have n1_ := Aside0.mk (hbox); have n2_ := Aside0.mk ((by rw [hg]; exact (below_size (by repeat (first | (with_reducible first | exact HB.out | apply below_alloc | apply pw_below_drewN | apply below_drew1) | exact HB.out))) : w.heap.size ≤ gb101)); have n3_ := Aside0.mk ((by rw [hg]; exact (below_size (by repeat (first | (with_reducible first | exact HB.out | apply below_alloc | apply pw_below_drewN | apply below_drew1) | exact HB.out))) : w.heap.size ≤ gb101)); clear HB; have HB := n0_; have BK101 := n1_; have GW101 := n2_; have GE101 := n3_; clear n0_ n1_ n2_ n3_; clear hb hbox hg; have hcz10_0 : w9.cell? ⟨gb101, 0, none⟩ = some (.int .i64 a0_0) := (blk_cell BK101.out 0).trans rfl; have hcz10_1 : w9.cell? ⟨gb101, 1, none⟩ = some (.int .i64 a0_1) := (blk_cell BK101.out 1).trans rfl; have hcz10_2 : w9.cell? ⟨gb101, 2, none⟩ = some (.int .i64 a0_2) := (blk_cell BK101.out 2).trans rfl; have hfz10_0 := blk_frozen BK101.out 0; have hfz10_1 := blk_frozen BK101.out 1; have hfz10_2 := blk_frozen BK101.out 2) | ((with_reducible refine gate_callee (f := 111) rfl ?_); refine goesL_ (some 5) rfl rfl Try.func111 (by kernel_rfl) rfl #[.int .i64 a0_0, .int .i64 1, .int .i64 64] rfl (by (try simp only [List.map_toArray, List.map_cons, List.map_nil]); first | done | rfl | (simp only [List.length_drop, List.length_take]; rfl)) ?_; (with_reducible refine (frame_within.calls a0_0 1 64 true _ A2.out).mono ?_); rintro e w' ⟨rfl, ⟨nd, rfl⟩⟩; refine ⟨_, rfl, ?_⟩) | (go_at_call 111; (with_reducible refine (frame_within.calls a0_1 0 2147483647 false _ A4.out).mono ?_); rintro e w' ⟨rfl, ⟨nd, rfl⟩⟩))
   go_ret
   exact ⟨by first | rfl | (simp [errW_none, errW_some] <;> rfl) | (simp [*, errW_none, errW_some] <;> rfl), by repeat (first | (with_reducible first | exact HB.out | apply below_alloc | apply pw_below_drewN | apply below_drew1 | refine below_set ?_ GE101.out) | exact HB.out)⟩
 ·replace c3 := Bool.eq_false_iff.mpr c3
  subst c3
  have H1 : (some false) = some r := by rw [if_neg (show ¬ (false = true) by decide)] at H <;> exact H
  clear H
  have H := H1
  clear H1
  obtain rfl := Option.some.inj H
  go_enter Try.func109, Try.ntmps109
  go_wp2_with (first | ((with_reducible refine gate_dst (N := 1) rfl ?_); refine box_event ?hg (N := 1) ?hd (cs := #[.int .i64 a0_0, .int .i64 a0_1, .int .i64 a0_2]) (t := 93) ?hr ?_; (case hd => rfl); (case hg => rfl); (case hr => first | (go_simp; done) | (go_simp; rfl)); intro gb101 hg w11 hbox hb; have n0_ := Aside0.mk (below_step (by repeat (first | (with_reducible first | exact HB.out | apply below_alloc | apply pw_below_drewN | apply below_drew1) | exact HB.out)) hb); have n1_ := Aside0.mk (hbox); have n2_ := Aside0.mk ((by rw [hg]; exact (below_size (by repeat (first | (with_reducible first | exact HB.out | apply below_alloc | apply pw_below_drewN | apply below_drew1) | exact HB.out))) : w.heap.size ≤ gb101)); have n3_ := Aside0.mk ((by rw [hg]; exact (below_size (by repeat (first | (with_reducible first | exact HB.out | apply below_alloc | apply pw_below_drewN | apply below_drew1) | exact HB.out))) : w.heap.size ≤ gb101)); clear HB; have HB := n0_; have BK101 := n1_; have GW101 := n2_; have GE101 := n3_; clear n0_ n1_ n2_ n3_; clear hb hbox hg; have hcz12_0 : w11.cell? ⟨gb101, 0, none⟩ = some (.int .i64 a0_0) := (blk_cell BK101.out 0).trans rfl; have hcz12_1 : w11.cell? ⟨gb101, 1, none⟩ = some (.int .i64 a0_1) := (blk_cell BK101.out 1).trans rfl; have hcz12_2 : w11.cell? ⟨gb101, 2, none⟩ = some (.int .i64 a0_2) := (blk_cell BK101.out 2).trans rfl; have hfz12_0 := blk_frozen BK101.out 0; have hfz12_1 := blk_frozen BK101.out 1; have hfz12_2 := blk_frozen BK101.out 2) | ((with_reducible refine gate_callee (f := 111) rfl ?_); refine goesL_ (some 5) rfl rfl Try.func111 (by kernel_rfl) rfl #[.int .i64 a0_0, .int .i64 1, .int .i64 64] rfl (by (try simp only [List.map_toArray, List.map_cons, List.map_nil]); first | done | rfl | (simp only [List.length_drop, List.length_take]; rfl)) ?_; (with_reducible refine (frame_within.calls a0_0 1 64 false _ A2.out).mono ?_); rintro e w' ⟨rfl, ⟨nd, rfl⟩⟩; refine ⟨_, rfl, ?_⟩))
  go_ret
  exact ⟨by first | rfl | (simp [errW_none, errW_some] <;> rfl) | (simp [*, errW_none, errW_some] <;> rfl), by repeat (first | (with_reducible first | exact HB.out | apply below_alloc | apply pw_below_drewN | apply below_drew1 | refine below_set ?_ GE101.out) | exact HB.out)⟩
def zeros_Is_p.l0 : Nat → List Int → Int → Int → Option (Bool)
 | 0, _, _, _ => none
 | k + 1, x5, x6, x7 => if x7 < x6 then (if 0 ≤ x7 then (if x7 < (x5.length : Int) then (if (rd x5 x7) = 0 then (zeros_Is_p.l0 k x5 x6 (wrap64 (x7 + 1))) else (some false)) else (none)) else (none)) else (some true)
def zeros_Is_p.f (k : Nat) (l0 : List Int) : Option (Bool) := zeros_Is_p.l0 k l0 (l0.length : Int) 0
set_option maxHeartbeats 8000000 in
set_option maxRecDepth 100000 in
theorem zeros_Is_p.calls (k : Nat) (A0 : Option Addr) (c0 : Nat) (l0 : List Int) (r : Bool) (w : World) (hr0 : Kd.C (Kd.int .u8) w A0 l0.length l0) (hc0 : l0.length ≤ c0) (h : zeros_Is_p.f k l0 = some r) :
  Calls Try.prog 57 #[.slice A0 l0.length c0] w fun e w' => e = .returned (.bool r) ∧ Drawn0 w w' := by
 have HR0 := Aside0.mk hr0
 have HC0 := Aside0.mk hc0
 clear hr0 hc0
 have H : (zeros_Is_p.l0 k l0 (l0.length : Int) 0) = some r := h
 clear h
 have H' := Aside0.mk H
 clear H
 go_enter Try.func57, Try.ntmps57
 go_wp2
 go_loopg [7] k (fun kq v7 w' => ∃ (x7_1 : Int), v7 = .int .i64 x7_1 ∧ Aside0 (zeros_Is_p.l0 kq l0 (l0.length : Int) x7_1 = some r) ∧ Aside0 (kq ≤ k) ∧ Drawn0 w w')
 case atStart => exact ⟨(0), (by first | rfl | (simp; done) | (simp [*]; done)), H', ⟨Nat.le_refl _⟩, by repeat (first | exact Drawn0.refl _ | apply Drawn0.step)⟩
 case round =>
  clear H'
  obtain ⟨x7_1, rfl, HA, HK1, ⟨m1, rfl⟩⟩ := hrel
  cases gk with
  | zero => exact absurd HA.out (by simp [zeros_Is_p.l0])
  | succ k1 =>
   have H := HA.out
   clear HA
   simp only [zeros_Is_p.l0] at H
   by_cases c2 : x7_1 < (l0.length : Int)
   ·rw [if_pos c2] at H
    have c2b0 : decide (x7_1 < (l0.length : Int)) = true := decide_eq_true c2
    clear c2
    by_cases c3 : 0 ≤ x7_1
    ·rw [if_pos c3] at H
     have c3b0 : decide (0 ≤ x7_1) = true := decide_eq_true c3
     clear c3
     by_cases c4 : x7_1 < (l0.length : Int)
     ·rw [if_pos c4] at H
      have c4b0 : decide (x7_1 < (l0.length : Int)) = true := decide_eq_true c4
      clear c4
      by_cases c5 : (rd l0 x7_1) = 0
      ·rw [if_pos c5] at H
       have c5b0 : ((rd l0 x7_1) == 0) = true := beq_iff_eq.mpr c5
       have c5b1 : ((rd l0 x7_1) != 0) = false := bne_eq_false_iff_eq.mpr c5
       clear c5
       have H' := Aside0.mk H
       clear H
       have p105 : 0 ≤ (x7_1 : Int) := of_decide_eq_true (by first | (with_reducible assumption) | assumption)
       have q105 : x7_1 < (l0.length : Int) := of_decide_eq_true (by first | (with_reducible assumption) | assumption)
       obtain ⟨ad105, e105, hx105_0⟩ := Kd.at_int HR0.out x7_1 p105 q105
       cases e105
       replace p105 := eq_true p105
       replace q105 := eq_true q105
       go_wp2
       go_roundg k1
       case measure => have := HK1.out; omega
       case rel => exact ⟨(wrap64 (x7_1 + 1)), (by first | rfl | (simp; done) | (simp [*]; done)), H', ⟨by have := HK1.out; omega⟩, by repeat (first | exact Drawn0.refl _ | apply Drawn0.step)⟩
      ·rw [if_neg c5] at H
       have c5b0 : ((rd l0 x7_1) == 0) = false := beq_eq_false_iff_ne.mpr c5
       have c5b1 : ((rd l0 x7_1) != 0) = true := bne_iff_ne.mpr c5
       obtain rfl := Option.some.inj H
       have p105 : 0 ≤ (x7_1 : Int) := of_decide_eq_true (by first | (with_reducible assumption) | assumption)
       have q105 : x7_1 < (l0.length : Int) := of_decide_eq_true (by first | (with_reducible assumption) | assumption)
       obtain ⟨ad105, e105, hx105_0⟩ := Kd.at_int HR0.out x7_1 p105 q105
       cases e105
       replace p105 := eq_true p105
       replace q105 := eq_true q105
       go_wp2
       go_ret
       exact ⟨by first | rfl | (simp; done) | (simp [*]; done), by repeat (first | exact Drawn0.refl _ | apply Drawn0.step)⟩
     ·rw [if_neg c4] at H
      exact absurd H (by simp)
    ·rw [if_neg c3] at H
     exact absurd H (by simp)
   ·rw [if_neg c2] at H
    have c2b0 : decide (x7_1 < (l0.length : Int)) = false := decide_eq_false c2
    clear c2
    obtain rfl := Option.some.inj H
    go_wp2
    go_ret
    exact ⟨by first | rfl | (simp; done) | (simp [*]; done), by repeat (first | exact Drawn0.refl _ | apply Drawn0.step)⟩
def zeros_Is.f (l0 : List Int) : Option Bool := if l0.length < 1073741824 then some (Pl.zeroB l0) else none
theorem zeros_Is.tells {l0 : List Int} (h : l0.length < 1073741824) : zeros_Is.f l0 = some (Pl.zeroB l0) := if_pos h
theorem zeros_Is.loop {l : List Int} (h : l.length < 1073741824) : ∀ (d k i : Nat), l.length - i = d → i ≤ l.length → d < k → zeros_Is_p.l0 k l (l.length : Int) (i : Int) = some (Pl.zeroB (l.drop i))
 | 0, k, i, hd, hi, hk => by
  obtain ⟨k, rfl⟩ : ∃ m, k = m + 1 := ⟨k - 1, by omega⟩
  rw [zeros_Is_p.l0, if_neg (by omega), List.drop_of_length_le (by omega)]
  rfl
 | d + 1, k, i, hd, hi, hk => by
  obtain ⟨k, rfl⟩ : ∃ m, k = m + 1 := ⟨k - 1, by omega⟩
  have hi0 : i < l.length := by omega
  rw [zeros_Is_p.l0, if_pos (by omega), if_pos (by omega), if_pos (by omega), show rd l (i : Int) = l[i] by simp [rd, hi0], List.drop_eq_getElem_cons hi0, Pl.zeroB, List.all_cons]
  by_cases h0 : l[i] = 0
  ·rw [if_pos h0, show wrap64 ((i : Int) + 1) = ((i + 1 : Nat) : Int) by unfold wrap64; omega, zeros_Is.loop h d k (i + 1) (by omega) (by omega) (by omega), decide_eq_true h0, Bool.true_and]
   rfl
  ·rw [if_neg h0, decide_eq_false h0, Bool.false_and]
theorem zeros_Is.closes {l0 : List Int} {r : Bool} (h : zeros_Is.f l0 = some r) : zeros_Is_p.f (l0.length + 1) l0 = some r := by
 unfold zeros_Is.f at h
 split at h
 case isFalse => cases h
 rename_i hh
 rw [← h]
 unfold zeros_Is_p.f
 have := zeros_Is.loop hh l0.length (l0.length + 1) 0 (by omega) (by omega) (by omega)
 rwa [List.drop_zero] at this
theorem zeros_Is.calls (A0 : Option Addr) (c0 : Nat) (l0 : List Int) (r : Bool) (w : World) (hr0 : Kd.C (Kd.int .u8) w A0 l0.length l0) (hc0 : l0.length ≤ c0) (h : zeros_Is.f l0 = some r) :
  Calls Try.prog 57 #[.slice A0 l0.length c0] w fun e w' => e = .returned (.bool r) ∧ Drawn0 w w' :=
 zeros_Is_p.calls (l0.length + 1) A0 c0 l0 r w hr0 hc0 (zeros_Is.closes h)
mutual
def frame_blocks_may.j0 : Nat → Bool → Int → Int → Int → List Int → Option (Bool)
 | 0, _, _, _, _, _ => none
 | k + 1, x16, x107000, x107001, x107002, x107003 => if x16 = true then (some false) else (if x107000 = 2 then (frame_blocks_may.l0 k x107003 x107000 x107001 x107002 x107003) else (some ((x107003.length : Int) == 0)))
def frame_blocks_may.l0 : Nat → List Int → Int → Int → Int → List Int → Option (Bool)
 | 0, _, _, _, _, _ => none
 | k + 1, x3, x107000, x107001, x107002, x107003 => if (x3.length : Int) ≥ 32 then (if 32 ≤ (x3.length : Int) then ((zeros_Is.f (x3.take 32)).bind fun t114 => (if t114 = true then (some false) else (frame_blocks_may.l0 k (x3.drop 32) x107000 x107001 x107002 x107003))) else (none)) else (if x107002 ≤ 16 then (some ((x107003.length : Int) == (wrap64 (x107002 * 32)))) else (some false))
end
def frame_blocks_may.f (k : Nat) (a0_0 : Int) (a0_1 : Int) (a0_2 : Int) (l0_3 : List Int) : Option (Bool) := (frame_within.f a0_1 0 64).bind fun t107 => (if t107 = true then ((frame_within.f a0_2 1 (wrap64 (64 - a0_1))).bind fun t108 => (frame_blocks_may.j0 k (!t108) a0_0 a0_1 a0_2 l0_3)) else (frame_blocks_may.j0 k true a0_0 a0_1 a0_2 l0_3))
set_option maxHeartbeats 8000000 in
set_option maxRecDepth 100000 in
theorem frame_blocks_may.calls (k : Nat) (a0_0 : Int) (a0_1 : Int) (a0_2 : Int) (P0_3_ : Nat → Prop) (A0_3 : Option Addr) (c0_3 : Nat) (l0_3 : List Int) (r : Bool) (w : World) (hs0_3 : Kd.V (Kd.int .u8) 5 w w.heap.size (fun k_ => P0_3_ k_) (.slice A0_3 l0_3.length c0_3) l0_3) (h : frame_blocks_may.f k a0_0 a0_1 a0_2 l0_3 = some r) :
  Calls Try.prog 112 #[.agg #[.int .i64 a0_0, .int .i64 a0_1, .int .i64 a0_2, .slice A0_3 l0_3.length c0_3]] w fun e w' => e = .returned (.bool r) ∧ Below w.heap.size w w' := by
 have hu95 := Try.underlying95
 have HO0_3 := Aside0.mk (show Kd.V (Kd.int .u8) 5 w w.heap.size (fun k_ => (P0_3_ k_ ∨ w.heap.size ≤ k_)) (.slice A0_3 l0_3.length c0_3) l0_3 from Kd.V_mono hs0_3 (fun k_ hk => .inl hk))
 have HB := Aside0.mk (Below.refl w.heap.size w)
 have H : ((frame_within.f a0_1 0 64).bind fun t107 => (if t107 = true then ((frame_within.f a0_2 1 (wrap64 (64 - a0_1))).bind fun t108 => (frame_blocks_may.j0 k (!t108) a0_0 a0_1 a0_2 l0_3)) else (frame_blocks_may.j0 k true a0_0 a0_1 a0_2 l0_3))) = some r := h
 clear h
 have HC2 := Aside0.mk H
 clear H
 go_enter Try.func112, Try.ntmps112
 go_upto_region 1 with (first | ((with_reducible refine gate_dst (N := 1) rfl ?_); (try (refine gate_guard (by rfl) ?_; dsimp only)); refine box_event ?hg (N := 1) ?hd (cs := #[.int .i64 a0_0, .int .i64 a0_1, .int .i64 a0_2, .slice A0_3 l0_3.length c0_3]) (t := 95) ?hr ?_; (case hd => rfl); (case hg => rfl); (case hr => first | (go_simp; done) | (go_simp; rfl)); intro gb106 hg w3 hbox hb; have n0_ := Aside0.mk (Kd.V_below (Kd.V_elderB (by (with_reducible repeat (first | apply Kd.V_alloc | apply Kd.V_drewN | apply Kd.V_drew)); exact HO0_3.out) gb106 (Nat.le_of_eq hg.symm)) hb); have n1_ := Aside0.mk (below_step (by repeat (first | (with_reducible first | exact HB.out | apply below_alloc | apply pw_below_drewN | apply below_drew1) | exact HB.out)) hb); have n2_ := Aside0.mk (hbox); have n3_ := Aside0.mk ((by rw [hg]; exact (below_size (by repeat (first | (with_reducible first | exact HB.out | apply below_alloc | apply pw_below_drewN | apply below_drew1) | exact HB.out))) : w.heap.size ≤ gb106)); have n4_ := Aside0.mk ((by rw [hg]; exact (below_size (by repeat (first | (with_reducible first | exact HB.out | apply below_alloc | apply pw_below_drewN | apply below_drew1) | exact HB.out))) : w.heap.size ≤ gb106)); clear HO0_3; clear HB; have HO0_3 := n0_; have HB := n1_; have BK106 := n2_; have GW106 := n3_; have GE106 := n4_; clear n0_ n1_ n2_ n3_ n4_; clear hb hbox hg))
 (try simp only [Act.put, Kx.sb, Kx.sz, Kx.ss])
 go_cut [16] (fun v16 wc => ∃ (kq : Nat) (x16_1 : Bool), v16 = .bool x16_1 ∧ Aside0 (frame_blocks_may.j0 kq x16_1 a0_0 a0_1 a0_2 l0_3 = some r) ∧ Aside0 (kq ≤ k) ∧ Aside0 (Kd.V (Kd.int .u8) 5 wc w.heap.size (fun k_ => (P0_3_ k_ ∨ w.heap.size ≤ k_) ∧ k_ ≠ gb106) (.slice A0_3 l0_3.length c0_3) l0_3) ∧ Aside0 (wc.heap[gb106]? = some (.cells #[.int .i64 a0_0, .int .i64 a0_1, .int .i64 a0_2, (.slice A0_3 l0_3.length c0_3)] 95 (0, 0))) ∧ Aside0 (Below w.heap.size w wc))
 case first =>
  have H := HC2.out
  clear HC2
  replace H := Option.bind_eq_some_iff.mp H
  obtain ⟨t107, A40, H⟩ := H
  replace H : (if t107 = true then ((frame_within.f a0_2 1 (wrap64 (64 - a0_1))).bind fun t108 => (frame_blocks_may.j0 k (!t108) a0_0 a0_1 a0_2 l0_3)) else (frame_blocks_may.j0 k true a0_0 a0_1 a0_2 l0_3)) = some r := H
  have A4 := Aside0.mk A40
  clear A40
  by_cases c5 : t107 = true
  ·subst c5
   have H1 : ((frame_within.f a0_2 1 (wrap64 (64 - a0_1))).bind fun t108 => (frame_blocks_may.j0 k (!t108) a0_0 a0_1 a0_2 l0_3)) = some r := by rw [if_pos rfl] at H <;> exact H
   clear H
   have H := H1
   clear H1
   replace H := Option.bind_eq_some_iff.mp H
   obtain ⟨t108, A60, H⟩ := H
   replace H : (frame_blocks_may.j0 k (!t108) a0_0 a0_1 a0_2 l0_3) = some r := H
   have A6 := Aside0.mk A60
   clear A60
   have H' := Aside0.mk H
   clear H
   have hcz7_0 : w3.cell? ⟨gb106, 0, none⟩ = some (.int .i64 a0_0) := (blk_cell BK106.out 0).trans rfl
   have hcz7_1 : w3.cell? ⟨gb106, 1, none⟩ = some (.int .i64 a0_1) := (blk_cell BK106.out 1).trans rfl
   have hcz7_2 : w3.cell? ⟨gb106, 2, none⟩ = some (.int .i64 a0_2) := (blk_cell BK106.out 2).trans rfl
   have hcz7_3 : w3.cell? ⟨gb106, 3, none⟩ = some (.slice A0_3 l0_3.length c0_3) := (blk_cell BK106.out 3).trans rfl
   have hfz7_0 := blk_frozen BK106.out 0
   have hfz7_1 := blk_frozen BK106.out 1
   have hfz7_2 := blk_frozen BK106.out 2
   have hfz7_3 := blk_frozen BK106.out 3
   go_wp2_with (first | ((with_reducible refine gate_callee (f := 111) rfl ?_); refine goesL_ (some 6) rfl rfl Try.func111 (by kernel_rfl) rfl #[.int .i64 a0_1, .int .i64 0, .int .i64 64] rfl (by (try simp only [List.map_toArray, List.map_cons, List.map_nil]); first | done | rfl | (simp only [List.length_drop, List.length_take]; rfl)) ?_; (with_reducible refine (frame_within.calls a0_1 0 64 true _ A4.out).mono ?_); rintro e w' ⟨rfl, ⟨nd, rfl⟩⟩; refine ⟨_, rfl, ?_⟩) | (go_at_call 111; (with_reducible refine (frame_within.calls a0_2 1 (wrap64 (64 - a0_1)) t108 _ A6.out).mono ?_); rintro e w' ⟨rfl, ⟨nd, rfl⟩⟩))
   go_meet
   case rel => exact ⟨_, (!t108), (by first | rfl | (simp; done) | (simp [*]; done)), H', ⟨by first | omega | exact Nat.le_refl _⟩, ⟨by (with_reducible repeat (first | apply Kd.V_alloc | apply Kd.V_drewN | apply Kd.V_drew)); exact HO0_3.out⟩, ⟨by (with_reducible repeat (first | refine blk_drewN ?_ _ | refine blk_drew ?_ | refine blk_alloc ?_ _)); exact BK106.out⟩, ⟨by repeat (first | (with_reducible first | exact HB.out | apply below_alloc | apply pw_below_drewN | apply below_drew1 | refine below_set ?_ GE106.out) | exact HB.out)⟩⟩
  ·replace c5 := Bool.eq_false_iff.mpr c5
   subst c5
   have H1 : (frame_blocks_may.j0 k true a0_0 a0_1 a0_2 l0_3) = some r := by rw [if_neg (show ¬ (false = true) by decide)] at H <;> exact H
   clear H
   have H := H1
   clear H1
   have H' := Aside0.mk H
   clear H
   have hcz8_0 : w3.cell? ⟨gb106, 0, none⟩ = some (.int .i64 a0_0) := (blk_cell BK106.out 0).trans rfl
   have hcz8_1 : w3.cell? ⟨gb106, 1, none⟩ = some (.int .i64 a0_1) := (blk_cell BK106.out 1).trans rfl
   have hcz8_2 : w3.cell? ⟨gb106, 2, none⟩ = some (.int .i64 a0_2) := (blk_cell BK106.out 2).trans rfl
   have hcz8_3 : w3.cell? ⟨gb106, 3, none⟩ = some (.slice A0_3 l0_3.length c0_3) := (blk_cell BK106.out 3).trans rfl
   have hfz8_0 := blk_frozen BK106.out 0
   have hfz8_1 := blk_frozen BK106.out 1
   have hfz8_2 := blk_frozen BK106.out 2
   have hfz8_3 := blk_frozen BK106.out 3
   go_wp2_with (first | ((with_reducible refine gate_callee (f := 111) rfl ?_); refine goesL_ (some 6) rfl rfl Try.func111 (by kernel_rfl) rfl #[.int .i64 a0_1, .int .i64 0, .int .i64 64] rfl (by (try simp only [List.map_toArray, List.map_cons, List.map_nil]); first | done | rfl | (simp only [List.length_drop, List.length_take]; rfl)) ?_; (with_reducible refine (frame_within.calls a0_1 0 64 false _ A4.out).mono ?_); rintro e w' ⟨rfl, ⟨nd, rfl⟩⟩; refine ⟨_, rfl, ?_⟩))
   go_meet
   case rel => exact ⟨_, (true), (by first | rfl | (simp; done) | (simp [*]; done)), H', ⟨by first | omega | exact Nat.le_refl _⟩, ⟨by (with_reducible repeat (first | apply Kd.V_alloc | apply Kd.V_drewN | apply Kd.V_drew)); exact HO0_3.out⟩, ⟨by (with_reducible repeat (first | refine blk_drewN ?_ _ | refine blk_drew ?_ | refine blk_alloc ?_ _)); exact BK106.out⟩, ⟨by repeat (first | (with_reducible first | exact HB.out | apply below_alloc | apply pw_below_drewN | apply below_drew1 | refine below_set ?_ GE106.out) | exact HB.out)⟩⟩
 case rest =>
  clear HC2
  try clear c1
  try clear p2
  try clear c5
  try clear p6
  try clear hcz7_0
  try clear hcz7_1
  try clear hcz7_2
  try clear hcz7_3
  try clear hcz8_0
  try clear hcz8_1
  try clear hcz8_2
  try clear hcz8_3
  try clear hfz7_0
  try clear hfz7_1
  try clear hfz7_2
  try clear hfz7_3
  try clear hfz8_0
  try clear hfz8_1
  try clear hfz8_2
  try clear hfz8_3
  obtain ⟨kq, x16_1, rfl, HA, HJ1, HO_107003, BK106, HB⟩ := hcut
  cases kq with
  | zero => exact absurd HA.out (by simp [frame_blocks_may.j0])
  | succ kj1 =>
   have H := HA.out
   clear HA
   simp only [frame_blocks_may.j0] at H
   by_cases c9 : x16_1 = true
   ·subst c9
    have H1 : (some false) = some r := by rw [if_pos rfl] at H <;> exact H
    clear H
    have H := H1
    clear H1
    obtain rfl := Option.some.inj H
    go_wp2
    go_ret
    exact ⟨by first | rfl | (simp [errW_none, errW_some] <;> rfl) | (simp [*, errW_none, errW_some] <;> rfl), by repeat (first | (with_reducible first | exact HB.out | apply below_alloc | apply pw_below_drewN | apply below_drew1 | refine below_set ?_ GE106.out) | exact HB.out)⟩
   ·replace c9 := Bool.eq_false_iff.mpr c9
    subst c9
    have H1 : (if a0_0 = 2 then (frame_blocks_may.l0 kj1 l0_3 a0_0 a0_1 a0_2 l0_3) else (some ((l0_3.length : Int) == 0))) = some r := by rw [if_neg (show ¬ (false = true) by decide)] at H <;> exact H
    clear H
    have H := H1
    clear H1
    by_cases c10 : a0_0 = 2
    ·rw [if_pos c10] at H
     have c10b0 : (a0_0 == 2) = true := beq_iff_eq.mpr c10
     have c10b1 : (a0_0 != 2) = false := bne_eq_false_iff_eq.mpr c10
     clear c10
     have H' := Aside0.mk H
     clear H
     have hcz11_0 : wc.cell? ⟨gb106, 0, none⟩ = some (.int .i64 a0_0) := (blk_cell BK106.out 0).trans rfl
     have hcz11_1 : wc.cell? ⟨gb106, 1, none⟩ = some (.int .i64 a0_1) := (blk_cell BK106.out 1).trans rfl
     have hcz11_2 : wc.cell? ⟨gb106, 2, none⟩ = some (.int .i64 a0_2) := (blk_cell BK106.out 2).trans rfl
     have hcz11_3 : wc.cell? ⟨gb106, 3, none⟩ = some (.slice A0_3 l0_3.length c0_3) := (blk_cell BK106.out 3).trans rfl
     have hfz11_0 := blk_frozen BK106.out 0
     have hfz11_1 := blk_frozen BK106.out 1
     have hfz11_2 := blk_frozen BK106.out 2
     have hfz11_3 := blk_frozen BK106.out 3
     go_wp2
     go_loopg [3] kj1 (fun kq v3 w' => ∃ (x3_2 : List Int), Aside0 (frame_blocks_may.l0 kq x3_2 a0_0 a0_1 a0_2 l0_3 = some r) ∧ Aside0 (kq ≤ kj1) ∧ Aside0 (Kd.V (Kd.int .u8) 5 w' w.heap.size (fun k_ => (P0_3_ k_ ∨ w.heap.size ≤ k_) ∧ k_ ≠ gb106) v3 x3_2) ∧ Aside0 (Kd.V (Kd.int .u8) 5 w' w.heap.size (fun k_ => (P0_3_ k_ ∨ w.heap.size ≤ k_) ∧ k_ ≠ gb106) (.slice A0_3 l0_3.length c0_3) l0_3) ∧ Aside0 (w'.heap[gb106]? = some (.cells #[.int .i64 a0_0, .int .i64 a0_1, .int .i64 a0_2, (.slice A0_3 l0_3.length c0_3)] 95 (0, 0))) ∧ Aside0 (Below w.heap.size w w'))
     case atStart => exact ⟨(l0_3), H', ⟨Nat.le_refl _⟩, ⟨by (with_reducible repeat (first | apply Kd.V_alloc | apply Kd.V_drewN | apply Kd.V_drew)); exact HO_107003.out⟩, ⟨by (with_reducible repeat (first | apply Kd.V_alloc | apply Kd.V_drewN | apply Kd.V_drew)); exact HO_107003.out⟩, ⟨by (with_reducible repeat (first | refine blk_drewN ?_ _ | refine blk_drew ?_ | refine blk_alloc ?_ _)); exact BK106.out⟩, ⟨by repeat (first | (with_reducible first | exact HB.out | apply below_alloc | apply pw_below_drewN | apply below_drew1 | refine below_set ?_ GE106.out) | exact HB.out)⟩⟩
     case round =>
      clear H'
      try clear c1
      try clear p2
      try clear c5
      try clear p6
      try clear c9
      try clear c10
      try clear c10b0
      try clear c10b1
      try clear c11
      try clear hcz11_0
      try clear hcz11_1
      try clear hcz11_2
      try clear hcz11_3
      try clear hcz7_0
      try clear hcz7_1
      try clear hcz7_2
      try clear hcz7_3
      try clear hcz8_0
      try clear hcz8_1
      try clear hcz8_2
      try clear hcz8_3
      try clear hfz11_0
      try clear hfz11_1
      try clear hfz11_2
      try clear hfz11_3
      try clear hfz7_0
      try clear hfz7_1
      try clear hfz7_2
      try clear hfz7_3
      try clear hfz8_0
      try clear hfz8_1
      try clear hfz8_2
      try clear hfz8_3
      try clear p2
      try clear p6
      obtain ⟨x3_2, HA, HK2, HO_3, HO_107003, BK106, HB⟩ := hrel
      cases gk with
      | zero => exact absurd HA.out (by simp [frame_blocks_may.l0])
      | succ k2 =>
       have H := HA.out
       clear HA
       simp only [frame_blocks_may.l0] at H
       by_cases c12 : (x3_2.length : Int) ≥ 32
       ·rw [if_pos c12] at H
        have c12b0 : decide (32 ≤ (x3_2.length : Int)) = true := decide_eq_true c12
        have c12b1 : decide (32 ≤ x3_2.length) = true := decide_eq_true (by omega)
        clear c12
        by_cases c13 : 32 ≤ (x3_2.length : Int)
        ·rw [if_pos c13] at H
         have c13b0 := eq_true c13
         have c13b1 : decide (32 ≤ (x3_2.length : Int)) = true := decide_eq_true c13
         clear c13
         obtain ⟨y109, hy109⟩ : ∃ y_ : List Int, y_ = (x3_2.take 32) := ⟨_, rfl⟩
         replace H : ((zeros_Is.f y109).bind fun t114 => (if t114 = true then (some false) else (frame_blocks_may.l0 k2 (x3_2.drop 32) a0_0 a0_1 a0_2 l0_3))) = some r := by first | (rw [hy109]; with_reducible exact H) | (have H2_ := (Option.bind_some _ _).symm.trans H; rw [hy109]; with_reducible exact H2_) | (have H2_ := (Option.bind_some _ _).symm.trans H; with_reducible exact H2_) | with_reducible exact H | (rw [hy109]; exact H) | exact H
         have Ny109 := Aside0.mk hy109
         clear hy109
         replace H := Option.bind_eq_some_iff.mp H
         obtain ⟨t114, A140, H⟩ := H
         replace H : (if t114 = true then (some false) else (frame_blocks_may.l0 k2 (x3_2.drop 32) a0_0 a0_1 a0_2 l0_3)) = some r := H
         have A14 := Aside0.mk A140
         clear A140
         by_cases c15 : t114 = true
         ·subst c15
          have H1 : (some false) = some r := by rw [if_pos rfl] at H <;> exact H
          clear H
          have H := H1
          clear H1
          obtain rfl := Option.some.inj H
          obtain ⟨Ao16, co16, eo16⟩ := Kd.V_slice HO_3.out
          subst eo16
          have q17 : (32 : Int) ≤ ((x3_2.length : Int) : Int) := of_decide_eq_true (by first | (with_reducible assumption) | assumption)
          obtain ⟨i017, hi017, _, hsz17, _⟩ := info_parts info5
          have hroom17 : x3_2.length ≤ co16 := (Kd.V_reads' HO_3.out).2.1
          have hC17 : Kd.F (Kd.int .u8) _ _ Ao16 x3_2.length x3_2 := (Kd.V_at (base := w.heap.size) HO_3.out).2.2
          have hcut17 := cut_to (P := Try.prog) 27 5 .i64 Try.underlying27 hi017 Ao16 x3_2.length co16 32 (by omega) q17 hroom17
          have hr17 := Kd.F_take (m := 32) hC17 (by omega)
          have hy17 : y109.length = (32 : Int).toNat := (by rw [Ny109.out, List.length_take]; omega)
          rw [← Ny109.out] at hr17
          rw [← hy17] at hcut17
          have HO113 := Aside0.mk (show Kd.V (Kd.int .u8) 5 _ w.heap.size _ (.slice Ao16 y109.length co16) y109 from Kd.V_mk (by omega) hr17)
          have HC113 := Aside0.mk (show y109.length ≤ co16 from by omega)
          clear hr17 hC17 hroom17 hi017 hsz17
          have KY17 := Aside0.mk hy17
          clear hy17
          replace q17 := eq_true q17
          go_wp2_with (first | ((with_reducible refine gate_callee (f := 57) rfl ?_); refine goesL_ (some 33) rfl rfl Try.func57 (by kernel_rfl) rfl #[.slice Ao16 y109.length co16] rfl (by (try simp only [List.map_toArray, List.map_cons, List.map_nil]); first | done | rfl | (simp only [List.length_drop, List.length_take]; rfl)) ?_; (with_reducible refine (zeros_Is.calls _ _ y109 true _ ?side1 ?side2 A14.out).mono ?_); (case side1 => repeat (first | exact (Kd.V_reads' HO113.out).2.2 | (with_reducible refine Kd.C_alloc ?_ _) | (with_reducible refine Kd.C_drewN ?_ _) | (with_reducible refine Kd.C_drew ?_))); (case side2 => exact (Kd.V_reads' HO113.out).2.1); rintro e w' ⟨rfl, ⟨nd, rfl⟩⟩; refine ⟨_, rfl, ?_⟩))
          go_ret
          exact ⟨by first | rfl | (simp [errW_none, errW_some] <;> rfl) | (simp [*, errW_none, errW_some] <;> rfl), by repeat (first | (with_reducible first | exact HB.out | apply below_alloc | apply pw_below_drewN | apply below_drew1 | refine below_set ?_ GE106.out) | exact HB.out)⟩
         ·replace c15 := Bool.eq_false_iff.mpr c15
          subst c15
          have H1 : (frame_blocks_may.l0 k2 (x3_2.drop 32) a0_0 a0_1 a0_2 l0_3) = some r := by rw [if_neg (show ¬ (false = true) by decide)] at H <;> exact H
          clear H
          have H := H1
          clear H1
          have c18b0 := eq_true (of_decide_eq_true (by first | (with_reducible assumption) | assumption) : 32 ≤ (x3_2.length : Int))
          obtain ⟨y115, hy115⟩ : ∃ y_ : List Int, y_ = (x3_2.drop 32) := ⟨_, rfl⟩
          replace H : (frame_blocks_may.l0 k2 y115 a0_0 a0_1 a0_2 l0_3) = some r := by first | (rw [hy115]; with_reducible exact H) | (have H2_ := (Option.bind_some _ _).symm.trans H; rw [hy115]; with_reducible exact H2_) | (have H2_ := (Option.bind_some _ _).symm.trans H; with_reducible exact H2_) | with_reducible exact H | (rw [hy115]; exact H) | exact H
          have Ny115 := Aside0.mk hy115
          clear hy115
          have H' := Aside0.mk H
          clear H
          obtain ⟨Ao19, co19, eo19⟩ := Kd.V_slice HO_3.out
          subst eo19
          have q20 : (32 : Int) ≤ ((x3_2.length : Int) : Int) := of_decide_eq_true (by first | (with_reducible assumption) | assumption)
          obtain ⟨i020, hi020, _, hsz20, _⟩ := info_parts info5
          have hroom20 : x3_2.length ≤ co19 := (Kd.V_reads' HO_3.out).2.1
          have hC20 : Kd.F (Kd.int .u8) _ _ Ao19 x3_2.length x3_2 := (Kd.V_at (base := w.heap.size) HO_3.out).2.2
          have hcut20 := cut_to (P := Try.prog) 27 5 .i64 Try.underlying27 hi020 Ao19 x3_2.length co19 32 (by omega) q20 hroom20
          have hr20 := Kd.F_take (m := 32) hC20 (by omega)
          have hy20 : y109.length = (32 : Int).toNat := (by rw [Ny109.out, List.length_take]; omega)
          rw [← Ny109.out] at hr20
          rw [← hy20] at hcut20
          have HO113 := Aside0.mk (show Kd.V (Kd.int .u8) 5 _ w.heap.size _ (.slice Ao19 y109.length co19) y109 from Kd.V_mk (by omega) hr20)
          have HC113 := Aside0.mk (show y109.length ≤ co19 from by omega)
          clear hr20 hC20 hroom20 hi020 hsz20
          have KY20 := Aside0.mk hy20
          clear hy20
          replace q20 := eq_true q20
          go_wp2_with (first | ((with_reducible refine gate_callee (f := 57) rfl ?_); refine goesL_ (some 33) rfl rfl Try.func57 (by kernel_rfl) rfl #[.slice Ao19 y109.length co19] rfl (by (try simp only [List.map_toArray, List.map_cons, List.map_nil]); first | done | rfl | (simp only [List.length_drop, List.length_take]; rfl)) ?_; (with_reducible refine (zeros_Is.calls _ _ y109 false _ ?side1 ?side2 A14.out).mono ?_); (case side1 => repeat (first | exact (Kd.V_reads' HO113.out).2.2 | (with_reducible refine Kd.C_alloc ?_ _) | (with_reducible refine Kd.C_drewN ?_ _) | (with_reducible refine Kd.C_drew ?_))); (case side2 => exact (Kd.V_reads' HO113.out).2.1); rintro e w' ⟨rfl, ⟨nd, rfl⟩⟩; refine ⟨_, rfl, ?_⟩; have q21 : (32 : Int) ≤ ((x3_2.length : Int) : Int) := of_decide_eq_true (by first | (with_reducible assumption) | assumption); obtain ⟨i021, hi021, _, hsz21, _⟩ := info_parts info5; have hroom21 : x3_2.length ≤ co19 := (Kd.V_reads' HO_3.out).2.1; have hC21 : Kd.F (Kd.int .u8) _ _ Ao19 x3_2.length x3_2 := (Kd.V_at (base := w.heap.size) HO_3.out).2.2; have hcut21 := cut_from (P := Try.prog) 27 5 .i64 Try.underlying27 hi021 1 hsz21 Ao19 x3_2.length co19 32 (by omega) q21; have hr21 := Kd.F_cut (m := (32 : Int).toNat) (c := co19) hC21 (by omega) hroom21; obtain ⟨A21, hA21⟩ : ∃ A1, A1 = (if co19 = (32 : Int).toNat then Ao19 else (Ao19 : Option Addr).map (·.add ((32 : Int).toNat * 1))) := ⟨_, rfl⟩; obtain ⟨c21, hc21⟩ : ∃ c1, c1 = co19 - (32 : Int).toNat := ⟨_, rfl⟩; have hy21 : y115.length = x3_2.length - (32 : Int).toNat := (by rw [Ny115.out, List.length_drop] <;> omega); rw [show (x3_2).drop (32 : Int).toNat = y115 from Ny115.out.symm] at hr21; replace hr21 : Kd.F (Kd.int .u8) _ _ A21 y115.length y115 := (by rw [hA21]; exact hr21); rw [← hy21, ← hA21, ← hc21] at hcut21; have HO119 := Aside0.mk (show Kd.V (Kd.int .u8) 5 _ w.heap.size _ (.slice A21 y115.length c21) y115 from Kd.V_mk (by rw [hy21, hc21]; exact Nat.sub_le_sub_right hroom21 _) hr21); have HC119 := Aside0.mk (show y115.length ≤ c21 from by rw [hy21, hc21]; exact Nat.sub_le_sub_right hroom21 _); clear hr21 hC21 hroom21 hi021 hsz21 hc21; have KY21 := Aside0.mk hy21; have KA21 := Aside0.mk hA21; clear hy21 hA21; replace q21 := eq_true q21))
          go_roundg k2
          case measure => have := HJ1.out; have := HK2.out; omega
          case rel => exact ⟨(y115), H', ⟨by have := HJ1.out; have := HK2.out; omega⟩, ⟨by (with_reducible repeat (first | apply Kd.V_alloc | apply Kd.V_drewN | apply Kd.V_drew)); exact HO119.out⟩, ⟨by (with_reducible repeat (first | apply Kd.V_alloc | apply Kd.V_drewN | apply Kd.V_drew)); exact HO_107003.out⟩, ⟨by (with_reducible repeat (first | refine blk_drewN ?_ _ | refine blk_drew ?_ | refine blk_alloc ?_ _)); exact BK106.out⟩, ⟨by repeat (first | (with_reducible first | exact HB.out | apply below_alloc | apply pw_below_drewN | apply below_drew1 | refine below_set ?_ GE106.out) | exact HB.out)⟩⟩
        ·rw [if_neg c13] at H
         exact absurd H (by simp)
       ·rw [if_neg c12] at H
        have c12b0 : decide (32 ≤ (x3_2.length : Int)) = false := decide_eq_false c12
        have c12b1 : decide (32 ≤ x3_2.length) = false := decide_eq_false (by omega)
        clear c12
        by_cases c22 : a0_2 ≤ 16
        ·rw [if_pos c22] at H
         have c22b0 : decide (a0_2 ≤ 16) = true := decide_eq_true c22
         clear c22
         obtain rfl := Option.some.inj H
         obtain ⟨Ao23, co23, eo23⟩ := Kd.V_slice HO_3.out
         subst eo23
         have hcz24_0 : wr.cell? ⟨gb106, 0, none⟩ = some (.int .i64 a0_0) := (blk_cell BK106.out 0).trans rfl
         have hcz24_1 : wr.cell? ⟨gb106, 1, none⟩ = some (.int .i64 a0_1) := (blk_cell BK106.out 1).trans rfl
         have hcz24_2 : wr.cell? ⟨gb106, 2, none⟩ = some (.int .i64 a0_2) := (blk_cell BK106.out 2).trans rfl
         have hcz24_3 : wr.cell? ⟨gb106, 3, none⟩ = some (.slice A0_3 l0_3.length c0_3) := (blk_cell BK106.out 3).trans rfl
         have hfz24_0 := blk_frozen BK106.out 0
         have hfz24_1 := blk_frozen BK106.out 1
         have hfz24_2 := blk_frozen BK106.out 2
         have hfz24_3 := blk_frozen BK106.out 3
         go_wp2
         go_ret
         exact ⟨by first | rfl | (simp [errW_none, errW_some] <;> rfl) | (simp [*, errW_none, errW_some] <;> rfl), by repeat (first | (with_reducible first | exact HB.out | apply below_alloc | apply pw_below_drewN | apply below_drew1 | refine below_set ?_ GE106.out) | exact HB.out)⟩
        ·rw [if_neg c22] at H
         have c22b0 : decide (a0_2 ≤ 16) = false := decide_eq_false c22
         clear c22
         obtain rfl := Option.some.inj H
         obtain ⟨Ao25, co25, eo25⟩ := Kd.V_slice HO_3.out
         subst eo25
         have hcz26_0 : wr.cell? ⟨gb106, 0, none⟩ = some (.int .i64 a0_0) := (blk_cell BK106.out 0).trans rfl
         have hcz26_1 : wr.cell? ⟨gb106, 1, none⟩ = some (.int .i64 a0_1) := (blk_cell BK106.out 1).trans rfl
         have hcz26_2 : wr.cell? ⟨gb106, 2, none⟩ = some (.int .i64 a0_2) := (blk_cell BK106.out 2).trans rfl
         have hcz26_3 : wr.cell? ⟨gb106, 3, none⟩ = some (.slice A0_3 l0_3.length c0_3) := (blk_cell BK106.out 3).trans rfl
         have hfz26_0 := blk_frozen BK106.out 0
         have hfz26_1 := blk_frozen BK106.out 1
         have hfz26_2 := blk_frozen BK106.out 2
         have hfz26_3 := blk_frozen BK106.out 3
         go_wp2
         go_ret
         exact ⟨by first | rfl | (simp [errW_none, errW_some] <;> rfl) | (simp [*, errW_none, errW_some] <;> rfl), by repeat (first | (with_reducible first | exact HB.out | apply below_alloc | apply pw_below_drewN | apply below_drew1 | refine below_set ?_ GE106.out) | exact HB.out)⟩
    ·rw [if_neg c10] at H
     have c10b0 : (a0_0 == 2) = false := beq_eq_false_iff_ne.mpr c10
     have c10b1 : (a0_0 != 2) = true := bne_iff_ne.mpr c10
     obtain rfl := Option.some.inj H
     have hcz27_0 : wc.cell? ⟨gb106, 0, none⟩ = some (.int .i64 a0_0) := (blk_cell BK106.out 0).trans rfl
     have hcz27_1 : wc.cell? ⟨gb106, 1, none⟩ = some (.int .i64 a0_1) := (blk_cell BK106.out 1).trans rfl
     have hcz27_2 : wc.cell? ⟨gb106, 2, none⟩ = some (.int .i64 a0_2) := (blk_cell BK106.out 2).trans rfl
     have hcz27_3 : wc.cell? ⟨gb106, 3, none⟩ = some (.slice A0_3 l0_3.length c0_3) := (blk_cell BK106.out 3).trans rfl
     have hfz27_0 := blk_frozen BK106.out 0
     have hfz27_1 := blk_frozen BK106.out 1
     have hfz27_2 := blk_frozen BK106.out 2
     have hfz27_3 := blk_frozen BK106.out 3
     go_wp2
     go_ret
     exact ⟨by first | rfl | (simp [errW_none, errW_some] <;> rfl) | (simp [*, errW_none, errW_some] <;> rfl), by repeat (first | (with_reducible first | exact HB.out | apply below_alloc | apply pw_below_drewN | apply below_drew1 | refine below_set ?_ GE106.out) | exact HB.out)⟩
def frame_end_may.f (a0_0 : Int) (a0_1 : Int) : Option (Bool) := (frame_within.f a0_0 1 65535).bind fun t121 => (if t121 = true then ((frame_within.f a0_1 0 4294967295).bind fun t122 => (some t122)) else (some false))
set_option maxHeartbeats 8000000 in
set_option maxRecDepth 100000 in
theorem frame_end_may.calls (a0_0 : Int) (a0_1 : Int) (r : Bool) (w : World) (h : frame_end_may.f a0_0 a0_1 = some r) :
  Calls Try.prog 114 #[.agg #[.int .i64 a0_0, .int .i64 a0_1]] w fun e w' => e = .returned (.bool r) ∧ Below w.heap.size w w' := by
 have hu97 := Try.underlying97
 have HB := Aside0.mk (Below.refl w.heap.size w)
 have H : ((frame_within.f a0_0 1 65535).bind fun t121 => (if t121 = true then ((frame_within.f a0_1 0 4294967295).bind fun t122 => (some t122)) else (some false))) = some r := h
 clear h
 replace H := Option.bind_eq_some_iff.mp H
 obtain ⟨t121, A20, H⟩ := H
 replace H : (if t121 = true then ((frame_within.f a0_1 0 4294967295).bind fun t122 => (some t122)) else (some false)) = some r := H
 have A2 := Aside0.mk A20
 clear A20
 by_cases c3 : t121 = true
 ·subst c3
  have H1 : ((frame_within.f a0_1 0 4294967295).bind fun t122 => (some t122)) = some r := by rw [if_pos rfl] at H <;> exact H
  clear H
  have H := H1
  clear H1
  replace H := Option.bind_eq_some_iff.mp H
  obtain ⟨t122, A40, H⟩ := H
  replace H : (some t122) = some r := H
  have A4 := Aside0.mk A40
  clear A40
  obtain rfl := Option.some.inj H
  go_enter Try.func114, Try.ntmps114
  go_wp2_with (first | ((with_reducible refine gate_dst (N := 1) rfl ?_); refine box_event ?hg (N := 1) ?hd (cs := #[.int .i64 a0_0, .int .i64 a0_1]) (t := 97) ?hr ?_; (case hd => rfl); (case hg => rfl); (case hr => first | (go_simp; done) | (go_simp; rfl)); intro gb120 hg w5 hbox hb; have n0_ := Aside0.mk (below_step (by repeat (first | (with_reducible first | exact HB.out | apply below_alloc | apply pw_below_drewN | apply below_drew1) | exact HB.out)) hb); have n1_ := Aside0.mk (hbox); have n2_ := Aside0.mk ((by rw [hg]; exact (below_size (by repeat (first | (with_reducible first | exact HB.out | apply below_alloc | apply pw_below_drewN | apply below_drew1) | exact HB.out))) : w.heap.size ≤ gb120)); have n3_ := Aside0.mk ((by rw [hg]; exact (below_size (by repeat (first | (with_reducible first | exact HB.out | apply below_alloc | apply pw_below_drewN | apply below_drew1) | exact HB.out))) : w.heap.size ≤ gb120)); clear HB; have HB := n0_; have BK120 := n1_; have GW120 := n2_; have GE120 := n3_; clear n0_ n1_ n2_ n3_; clear hb hbox hg; have hcz6_0 : w5.cell? ⟨gb120, 0, none⟩ = some (.int .i64 a0_0) := (blk_cell BK120.out 0).trans rfl; have hcz6_1 : w5.cell? ⟨gb120, 1, none⟩ = some (.int .i64 a0_1) := (blk_cell BK120.out 1).trans rfl; have hfz6_0 := blk_frozen BK120.out 0; have hfz6_1 := blk_frozen BK120.out 1) | ((with_reducible refine gate_callee (f := 111) rfl ?_); refine goesL_ (some 5) rfl rfl Try.func111 (by kernel_rfl) rfl #[.int .i64 a0_0, .int .i64 1, .int .i64 65535] rfl (by (try simp only [List.map_toArray, List.map_cons, List.map_nil]); first | done | rfl | (simp only [List.length_drop, List.length_take]; rfl)) ?_; (with_reducible refine (frame_within.calls a0_0 1 65535 true _ A2.out).mono ?_); rintro e w' ⟨rfl, ⟨nd, rfl⟩⟩; refine ⟨_, rfl, ?_⟩) | (go_at_call 111; (with_reducible refine (frame_within.calls a0_1 0 4294967295 t122 _ A4.out).mono ?_); rintro e w' ⟨rfl, ⟨nd, rfl⟩⟩))
  go_ret
  exact ⟨by first | rfl | (simp [errW_none, errW_some] <;> rfl) | (simp [*, errW_none, errW_some] <;> rfl), by repeat (first | (with_reducible first | exact HB.out | apply below_alloc | apply pw_below_drewN | apply below_drew1 | refine below_set ?_ GE120.out) | exact HB.out)⟩
 ·replace c3 := Bool.eq_false_iff.mpr c3
  subst c3
  have H1 : (some false) = some r := by rw [if_neg (show ¬ (false = true) by decide)] at H <;> exact H
  clear H
  have H := H1
  clear H1
  obtain rfl := Option.some.inj H
  go_enter Try.func114, Try.ntmps114
  go_wp2_with (first | ((with_reducible refine gate_dst (N := 1) rfl ?_); refine box_event ?hg (N := 1) ?hd (cs := #[.int .i64 a0_0, .int .i64 a0_1]) (t := 97) ?hr ?_; (case hd => rfl); (case hg => rfl); (case hr => first | (go_simp; done) | (go_simp; rfl)); intro gb120 hg w7 hbox hb; have n0_ := Aside0.mk (below_step (by repeat (first | (with_reducible first | exact HB.out | apply below_alloc | apply pw_below_drewN | apply below_drew1) | exact HB.out)) hb); have n1_ := Aside0.mk (hbox); have n2_ := Aside0.mk ((by rw [hg]; exact (below_size (by repeat (first | (with_reducible first | exact HB.out | apply below_alloc | apply pw_below_drewN | apply below_drew1) | exact HB.out))) : w.heap.size ≤ gb120)); have n3_ := Aside0.mk ((by rw [hg]; exact (below_size (by repeat (first | (with_reducible first | exact HB.out | apply below_alloc | apply pw_below_drewN | apply below_drew1) | exact HB.out))) : w.heap.size ≤ gb120)); clear HB; have HB := n0_; have BK120 := n1_; have GW120 := n2_; have GE120 := n3_; clear n0_ n1_ n2_ n3_; clear hb hbox hg; have hcz8_0 : w7.cell? ⟨gb120, 0, none⟩ = some (.int .i64 a0_0) := (blk_cell BK120.out 0).trans rfl; have hcz8_1 : w7.cell? ⟨gb120, 1, none⟩ = some (.int .i64 a0_1) := (blk_cell BK120.out 1).trans rfl; have hfz8_0 := blk_frozen BK120.out 0; have hfz8_1 := blk_frozen BK120.out 1) | ((with_reducible refine gate_callee (f := 111) rfl ?_); refine goesL_ (some 5) rfl rfl Try.func111 (by kernel_rfl) rfl #[.int .i64 a0_0, .int .i64 1, .int .i64 65535] rfl (by (try simp only [List.map_toArray, List.map_cons, List.map_nil]); first | done | rfl | (simp only [List.length_drop, List.length_take]; rfl)) ?_; (with_reducible refine (frame_within.calls a0_0 1 65535 false _ A2.out).mono ?_); rintro e w' ⟨rfl, ⟨nd, rfl⟩⟩; refine ⟨_, rfl, ?_⟩))
  go_ret
  exact ⟨by first | rfl | (simp [errW_none, errW_some] <;> rfl) | (simp [*, errW_none, errW_some] <;> rfl), by repeat (first | (with_reducible first | exact HB.out | apply below_alloc | apply pw_below_drewN | apply below_drew1 | refine below_set ?_ GE120.out) | exact HB.out)⟩
def bytes_Clone.f (l0 : List Int) : Option (List Int) := if l0.length < 140737488355328 then some l0 else none
set_option maxHeartbeats 1000000 in
theorem bytes_Clone.calls (A0 : Option Addr) (c0 : Nat) (l0 : List Int) (r : List Int) (w : World) (hr0 : Kd.C (Kd.int .u8) w A0 l0.length l0) (hc0 : l0.length ≤ c0) (h : bytes_Clone.f l0 = some r) :
  Calls Try.prog 72 #[.slice A0 l0.length c0] w fun e w' => ∃ v0_ : Value, e = .returned (v0_) ∧ Kd.R (Kd.int .u8) 5 w' w.heap.size (fun _ => True) v0_ r ∧ Below w.heap.size w w' := by
 have HR0 := Aside0.mk hr0
 clear hr0 hc0
 unfold bytes_Clone.f at h
 by_cases hl : l0.length < 140737488355328
 ·rw [if_pos hl] at h
  obtain rfl := Option.some.inj h
  have HL := Aside0.mk hl
  clear h hl
  have HB := Aside0.mk (Below.refl w.heap.size w)
  cases A0 with
  | none =>
   obtain rfl : l0 = [] := by
    cases l0 with
    | nil => rfl
    | cons x xs => obtain ⟨ad, h, _⟩ := HR0.out.2.2 (by simp); cases h
   have hq := fun (w : World) => Lib.run_eql_slice_nil (P := Try.prog) w 27 5 none 0 c0 0 0 Try.underlying27
   simp only [List.length_nil]
   go_enter Try.func72, Try.ntmps72
   go_wp2
   go_ret
   exact ⟨_, rfl, Kd.R_nil _ _ _ _ _, Below.refl _ _⟩
  | some ad =>
   have hq := fun (w : World) => Lib.run_eql_slice_nil (P := Try.prog) w 27 5 (some ad) l0.length c0 0 0 Try.underlying27
   go_enter Try.func72, Try.ntmps72
   go_wp2_with (first | ((with_reducible refine gate_dst (N := 5) rfl ?_); refine Kd.R_lit (Kd.int .u8) _ 5 ?hg (N := 5) ?hd (xs := ([] : List Int)) (inner := []) (ok := fun _ => True) (okp := fun _ => True) ?hr ?hp (fun _ hk => hk) trivial (Below.refl _ _) (Nat.le_refl _) (by simp) ?_; (case hd => rfl); (case hg => rfl); (case hr => first | (go_simp; done) | (go_simp; rfl)); (case hp => exact (Reps.none _ _)); intro v110 w13 ho14 hb hg_ hnew_; clear hg_ hnew_; have n0_ := Aside0.mk (Kd.R_lower ho14 (below_size HB.out)); have n1_ := Aside0.mk (below_step HB.out hb); clear HB; have HO111 := n0_; have HB := n1_; clear n0_ n1_; clear hb ho14) | ((with_reducible refine gate_builtin (b := .append) (xs := #[.tmp 5, .tmp 6]) rfl ?_); at_builtin; refine Kd.R_append_rows (Kd.int .u8) (w0 := w) w.heap.size rfl (.tmp 5) (.tmp 6) 27 5 (.int .u8 0) 1 rfl Try.underlying27 info5 rfl (by decide) (by omega) v110 [] l0 _ _ _ (fun _ => True) (fun _ => False) rfl rfl ?aO ?aR (fun _ _ h => h) (fun _ h => h.elim) ?aF ?aB ?aS ?aL ?_; (case aR => repeat (first | exact (Kd.C_below HR0.out HB.out) | (with_reducible refine Kd.C_alloc ?_ _) | (with_reducible refine Kd.C_drewN ?_ _) | (with_reducible refine Kd.C_drew ?_))); (case aB => exact HB.out); (case aF => exact (fun _ _ => trivial)); (case aO => exact HO111.out); (case aS => exact below_size HB.out); (case aL => have := HL.out; simp; omega); intro v113 w15 ho hb hg hat; have n0_ := Aside0.mk (hb); have n1_ := Aside0.mk (ho); clear HB; clear HO111; have HB := n0_; have HO114 := n1_; clear n0_ n1_; clear ho hb hg hat))
   go_ret
   exact ⟨_, rfl, HO114.out, HB.out⟩
 ·rw [if_neg hl] at h
  cases h
def le_may.f (a0 : Int) (a1 : Int) : Option (Bool) := if a1 = 1 then (if 0 ≤ (wrap64 (8 * a1)) then (some ((shr .u64 a0 (wrap64 (8 * a1))) == 0)) else (none)) else (if a1 = 2 then (if 0 ≤ (wrap64 (8 * a1)) then (some ((shr .u64 a0 (wrap64 (8 * a1))) == 0)) else (none)) else (if a1 = 4 then (if 0 ≤ (wrap64 (8 * a1)) then (some ((shr .u64 a0 (wrap64 (8 * a1))) == 0)) else (none)) else (some (a1 == 8))))
set_option maxHeartbeats 8000000 in
set_option maxRecDepth 100000 in
theorem le_may.calls (a0 : Int) (a1 : Int) (r : Bool) (w : World) (h : le_may.f a0 a1 = some r) :
  Calls Try.prog 82 #[.int .u64 a0, .int .i64 a1] w fun e w' => e = .returned (.bool r) ∧ Drawn0 w w' := by
 have H : (if a1 = 1 then (if 0 ≤ (wrap64 (8 * a1)) then (some ((shr .u64 a0 (wrap64 (8 * a1))) == 0)) else (none)) else (if a1 = 2 then (if 0 ≤ (wrap64 (8 * a1)) then (some ((shr .u64 a0 (wrap64 (8 * a1))) == 0)) else (none)) else (if a1 = 4 then (if 0 ≤ (wrap64 (8 * a1)) then (some ((shr .u64 a0 (wrap64 (8 * a1))) == 0)) else (none)) else (some (a1 == 8))))) = some r := h
 clear h
 by_cases c3 : a1 = 1
 ·rw [if_pos c3] at H
  have c3b0 : (a1 == 1) = true := beq_iff_eq.mpr c3
  have c3b1 : (a1 != 1) = false := bne_eq_false_iff_eq.mpr c3
  clear c3
  obtain ⟨ji4, hji4⟩ : ∃ j_ : Int, (wrap64 (8 * a1)) = j_ := ⟨_, rfl⟩
  replace H : (if 0 ≤ (ji4) then (some ((shr .u64 a0 (ji4)) == 0)) else (none)) = some r := by first | (rw [hji4] at H; exact H) | (simp only [hji4] at H ⊢; exact H)
  have hji4w : (IntKind.i64.wrap (8 * a1)) = ji4 := (i64_w _).trans hji4
  by_cases c5 : 0 ≤ (ji4)
  ·rw [if_pos c5] at H
   have c5b0 := eq_true c5
   have c5b1 : decide (0 ≤ (ji4)) = true := decide_eq_true c5
   clear c5
   obtain ⟨ji6, hji6⟩ : ∃ j_ : Int, (shr .u64 a0 (ji4)) = j_ := ⟨_, rfl⟩
   replace H : (some ((ji6) == 0)) = some r := by first | (rw [hji6] at H; exact H) | (simp only [hji6] at H ⊢; exact H)
   have hji6_ : (a0 / 2 ^ min (ji4).toNat 64) = ji6 := hji6
   have hji6z : (ji4) ≤ 64 → (a0 / 2 ^ (ji4).toNat) = ji6 := shr_small hji6
   obtain rfl := Option.some.inj H
   go_enter Try.func82, Try.ntmps82
   go_wp2
   go_ret
   exact ⟨by first | rfl | (simp; done) | (simp only [← hji4, ← hji6] <;> (first | rfl | simp)) | (simp [*]; done), by repeat (first | exact Drawn0.refl _ | apply Drawn0.step)⟩
  ·rw [if_neg c5] at H
   exact absurd H (by simp)
 ·rw [if_neg c3] at H
  have c3b0 : (a1 == 1) = false := beq_eq_false_iff_ne.mpr c3
  have c3b1 : (a1 != 1) = true := bne_iff_ne.mpr c3
  by_cases c7 : a1 = 2
  ·rw [if_pos c7] at H
   have c7b0 : (a1 == 2) = true := beq_iff_eq.mpr c7
   have c7b1 : (a1 != 2) = false := bne_eq_false_iff_eq.mpr c7
   clear c7
   obtain ⟨ji8, hji8⟩ : ∃ j_ : Int, (wrap64 (8 * a1)) = j_ := ⟨_, rfl⟩
   replace H : (if 0 ≤ (ji8) then (some ((shr .u64 a0 (ji8)) == 0)) else (none)) = some r := by first | (rw [hji8] at H; exact H) | (simp only [hji8] at H ⊢; exact H)
   have hji8w : (IntKind.i64.wrap (8 * a1)) = ji8 := (i64_w _).trans hji8
   by_cases c9 : 0 ≤ (ji8)
   ·rw [if_pos c9] at H
    have c9b0 := eq_true c9
    have c9b1 : decide (0 ≤ (ji8)) = true := decide_eq_true c9
    clear c9
    obtain ⟨ji10, hji10⟩ : ∃ j_ : Int, (shr .u64 a0 (ji8)) = j_ := ⟨_, rfl⟩
    replace H : (some ((ji10) == 0)) = some r := by first | (rw [hji10] at H; exact H) | (simp only [hji10] at H ⊢; exact H)
    have hji10_ : (a0 / 2 ^ min (ji8).toNat 64) = ji10 := hji10
    have hji10z : (ji8) ≤ 64 → (a0 / 2 ^ (ji8).toNat) = ji10 := shr_small hji10
    obtain rfl := Option.some.inj H
    go_enter Try.func82, Try.ntmps82
    go_wp2
    go_ret
    exact ⟨by first | rfl | (simp; done) | (simp only [← hji8, ← hji10] <;> (first | rfl | simp)) | (simp [*]; done), by repeat (first | exact Drawn0.refl _ | apply Drawn0.step)⟩
   ·rw [if_neg c9] at H
    exact absurd H (by simp)
  ·rw [if_neg c7] at H
   have c7b0 : (a1 == 2) = false := beq_eq_false_iff_ne.mpr c7
   have c7b1 : (a1 != 2) = true := bne_iff_ne.mpr c7
   by_cases c11 : a1 = 4
   ·rw [if_pos c11] at H
    have c11b0 : (a1 == 4) = true := beq_iff_eq.mpr c11
    have c11b1 : (a1 != 4) = false := bne_eq_false_iff_eq.mpr c11
    clear c11
    obtain ⟨ji12, hji12⟩ : ∃ j_ : Int, (wrap64 (8 * a1)) = j_ := ⟨_, rfl⟩
    replace H : (if 0 ≤ (ji12) then (some ((shr .u64 a0 (ji12)) == 0)) else (none)) = some r := by first | (rw [hji12] at H; exact H) | (simp only [hji12] at H ⊢; exact H)
    have hji12w : (IntKind.i64.wrap (8 * a1)) = ji12 := (i64_w _).trans hji12
    by_cases c13 : 0 ≤ (ji12)
    ·rw [if_pos c13] at H
     have c13b0 := eq_true c13
     have c13b1 : decide (0 ≤ (ji12)) = true := decide_eq_true c13
     clear c13
     obtain ⟨ji14, hji14⟩ : ∃ j_ : Int, (shr .u64 a0 (ji12)) = j_ := ⟨_, rfl⟩
     replace H : (some ((ji14) == 0)) = some r := by first | (rw [hji14] at H; exact H) | (simp only [hji14] at H ⊢; exact H)
     have hji14_ : (a0 / 2 ^ min (ji12).toNat 64) = ji14 := hji14
     have hji14z : (ji12) ≤ 64 → (a0 / 2 ^ (ji12).toNat) = ji14 := shr_small hji14
     obtain rfl := Option.some.inj H
     go_enter Try.func82, Try.ntmps82
     go_wp2
     go_ret
     exact ⟨by first | rfl | (simp; done) | (simp only [← hji12, ← hji14] <;> (first | rfl | simp)) | (simp [*]; done), by repeat (first | exact Drawn0.refl _ | apply Drawn0.step)⟩
    ·rw [if_neg c13] at H
     exact absurd H (by simp)
   ·rw [if_neg c11] at H
    have c11b0 : (a1 == 4) = false := beq_eq_false_iff_ne.mpr c11
    have c11b1 : (a1 != 4) = true := bne_iff_ne.mpr c11
    obtain rfl := Option.some.inj H
    go_enter Try.func82, Try.ntmps82
    go_wp2
    go_ret
    exact ⟨by first | rfl | (simp; done) | (simp [*]; done), by repeat (first | exact Drawn0.refl _ | apply Drawn0.step)⟩
def le_Put_p.l0 : Nat → Int → List Int → Int → Int → Option (List Int × Int)
 | 0, _, _, _, _ => none
 | k + 1, x1, x8, x15, x16 => if x16 < x15 then (if x8.length < 140737488355328 then (le_Put_p.l0 k (x1 / 256) (x8 ++ [(x1) % 256]) x15 (wrap64 (x16 + 1))) else (none)) else (some (x8, 0))
def le_Put_p.f (k : Nat) (l0 : List Int) (a1 : Int) (a2 : Int) : Option (List Int × Int) := (le_may.f a1 a2).bind fun t123 => (if t123 = true then ((bytes_Clone.f l0).bind fun t124 => (le_Put_p.l0 k a1 t124 a2 0)) else (some (([] : List Int), 10)))
set_option maxHeartbeats 8000000 in
set_option maxRecDepth 100000 in
theorem le_Put_p.calls (k : Nat) (A0 : Option Addr) (c0 : Nat) (l0 : List Int) (a1 : Int) (a2 : Int) (r1 : List Int) (r2 : Int) (w : World) (hr0 : Kd.C (Kd.int .u8) w A0 l0.length l0) (hc0 : l0.length ≤ c0) (h : le_Put_p.f k l0 a1 a2 = some (r1, r2)) :
  Calls Try.prog 66 #[.slice A0 l0.length c0, .int .u64 a1, .int .i64 a2] w fun e w' => ∃ v0_ : Value, e = .returned (.tuple #[v0_, .int .i64 r2]) ∧ Kd.R (Kd.int .u8) 5 w' w.heap.size (fun _ => True) v0_ r1 ∧ Below w.heap.size w w' := by
 have HR0 := Aside0.mk hr0
 have HC0 := Aside0.mk hc0
 clear hr0 hc0
 have HB := Aside0.mk (Below.refl w.heap.size w)
 have H : ((le_may.f a1 a2).bind fun t123 => (if t123 = true then ((bytes_Clone.f l0).bind fun t124 => (le_Put_p.l0 k a1 t124 a2 0)) else (some (([] : List Int), 10)))) = some (r1, r2) := h
 clear h
 replace H := Option.bind_eq_some_iff.mp H
 obtain ⟨t123, A40, H⟩ := H
 replace H : (if t123 = true then ((bytes_Clone.f l0).bind fun t124 => (le_Put_p.l0 k a1 t124 a2 0)) else (some (([] : List Int), 10))) = some (r1, r2) := H
 have A4 := Aside0.mk A40
 clear A40
 by_cases c5 : t123 = true
 ·subst c5
  have H1 : ((bytes_Clone.f l0).bind fun t124 => (le_Put_p.l0 k a1 t124 a2 0)) = some (r1, r2) := by rw [if_pos rfl] at H <;> exact H
  clear H
  have H := H1
  clear H1
  replace H := Option.bind_eq_some_iff.mp H
  obtain ⟨t124, A60, H⟩ := H
  replace H : (le_Put_p.l0 k a1 t124 a2 0) = some (r1, r2) := H
  have A6 := Aside0.mk A60
  clear A60
  have H' := Aside0.mk H
  clear H
  go_enter Try.func66, Try.ntmps66
  go_wp2_with (first | ((with_reducible refine gate_callee (f := 82) rfl ?_); refine goesL_ (some 11) rfl rfl Try.func82 (by kernel_rfl) rfl #[.int .u64 a1, .int .i64 a2] rfl (by (try simp only [List.map_toArray, List.map_cons, List.map_nil]); first | done | rfl | (simp only [List.length_drop, List.length_take]; rfl)) ?_; (with_reducible refine (le_may.calls a1 a2 true _ A4.out).mono ?_); rintro e w' ⟨rfl, ⟨nd, rfl⟩⟩; refine ⟨_, rfl, ?_⟩) | ((with_reducible refine gate_callee (f := 72) rfl ?_); refine goesL_ (some 14) rfl rfl Try.func72 (by kernel_rfl) rfl #[.slice A0 l0.length c0] rfl (by (try simp only [List.map_toArray, List.map_cons, List.map_nil]); first | done | rfl | (simp only [List.length_drop, List.length_take]; rfl)) ?_; (with_reducible refine (bytes_Clone.calls _ _ l0 t124 _ ?side1 ?side2 A6.out).mono ?_); (case side1 => repeat (first | exact HR0.out | (with_reducible refine Kd.C_alloc ?_ _) | (with_reducible refine Kd.C_drewN ?_ _) | (with_reducible refine Kd.C_drew ?_))); (case side2 => exact HC0.out); rintro e w7 ⟨v125, rfl, ho0, hb⟩; refine ⟨_, rfl, ?_⟩; have n0_ := Aside0.mk (Kd.R_lower ho0 (below_size (by repeat (first | (with_reducible first | exact HB.out | apply below_alloc | apply pw_below_drewN | apply below_drew1) | exact HB.out)))); have n1_ := Aside0.mk (below_step (by repeat (first | (with_reducible first | exact HB.out | apply below_alloc | apply pw_below_drewN | apply below_drew1) | exact HB.out)) hb); clear HB; have HO126 := n0_; have HB := n1_; clear n0_ n1_; (try clear hb); (try clear hb2); (try clear hk); (try clear hi); (try clear ho0)))
  go_loopg [1, 8, 16] k (fun kq v1 v8 v16 w' => ∃ (x1_1 : Int) (x8_1 : List Int) (x16_1 : Int), v1 = .int .u64 x1_1 ∧ v16 = .int .i64 x16_1 ∧ Aside0 (le_Put_p.l0 kq x1_1 x8_1 a2 x16_1 = some (r1, r2)) ∧ Aside0 (kq ≤ k) ∧ Aside0 (Kd.R (Kd.int .u8) 5 w' w.heap.size (fun _ => True) v8 x8_1) ∧ Aside0 (Below w.heap.size w w'))
  case atStart => exact ⟨(a1), (t124), (0), (by first | rfl | (simp; done) | (simp [*]; done)), (by first | rfl | (simp; done) | (simp [*]; done)), H', ⟨Nat.le_refl _⟩, ⟨by (with_reducible repeat (first | apply Kd.R_alloc | apply Kd.R_drewN | apply Kd.R_drew)); exact HO126.out⟩, ⟨by repeat (first | (with_reducible first | exact HB.out | apply below_alloc | apply pw_below_drewN | apply below_drew1) | exact HB.out)⟩⟩
  case round =>
   clear H'
   try clear p2
   try clear c5
   try clear c6
   try clear c7
   obtain ⟨x1_1, x8_1, x16_1, rfl, rfl, HA, HK1, HO_8, HB⟩ := hrel
   cases gk with
   | zero => exact absurd HA.out (by simp [le_Put_p.l0])
   | succ k1 =>
    have H := HA.out
    clear HA
    simp only [le_Put_p.l0] at H
    by_cases c8 : x16_1 < a2
    ·rw [if_pos c8] at H
     have c8b0 : decide (x16_1 < a2) = true := decide_eq_true c8
     clear c8
     by_cases c9 : x8_1.length < 140737488355328
     ·rw [if_pos c9] at H
      have LMc9 := Aside0.mk c9
      clear c9
      obtain ⟨y127, hy127⟩ : ∃ y_ : List Int, y_ = (x8_1 ++ [(x1_1) % 256]) := ⟨_, rfl⟩
      replace H : (le_Put_p.l0 k1 (x1_1 / 256) y127 a2 (wrap64 (x16_1 + 1))) = some (r1, r2) := by first | (rw [hy127]; with_reducible exact H) | (have H2_ := (Option.bind_some _ _).symm.trans H; rw [hy127]; with_reducible exact H2_) | (have H2_ := (Option.bind_some _ _).symm.trans H; with_reducible exact H2_) | with_reducible exact H | (rw [hy127]; exact H) | exact H
      have Ny127 := Aside0.mk hy127
      clear hy127
      have H' := Aside0.mk H
      clear H
      go_wp2_with (first | ((with_reducible refine gate_builtin (b := .append) (xs := #[.tmp 18, .tmp 21]) rfl ?_); at_builtin; refine Kd.R_append (Kd.int .u8) (w0 := w) w.heap.size rfl (.tmp 18) (.tmp 21) 27 5 (.int .u8 0) 1 rfl Try.underlying27 info5 rfl (by decide) (by omega) u8 x8_1 ((x1_1) % 256) [.int .u8 ((x1_1) % 256)] (fun _ => True) (fun _ => False) rfl rfl ?aP (fun _ hk => hk.elim) ?aF ?aO ?aB ?aS ?aL ?_; (case aP => exact rfl); (case aB => exact (by repeat (first | (with_reducible first | exact HB.out | apply below_alloc | apply pw_below_drewN | apply below_drew1) | exact HB.out))); (case aF => exact (fun _ _ => trivial)); (case aO => exact (by (with_reducible repeat (first | apply Kd.R_alloc | apply Kd.R_drewN | apply Kd.R_drew)); exact HO_8.out)); (case aS => exact (below_size (by repeat (first | (with_reducible first | exact HB.out | apply below_alloc | apply pw_below_drewN | apply below_drew1) | exact HB.out)))); (case aL => have := LMc9.out; omega); intro v128 w10 ho hb hg hat; rw [← Ny127.out] at ho; have n0_ := Aside0.mk (hb); have n1_ := Aside0.mk (ho); clear HB; clear HO_8; have HB := n0_; have HO129 := n1_; clear n0_ n1_; clear ho hb hg hat))
      go_roundg k1
      case measure => have := HK1.out; omega
      case rel => exact ⟨(x1_1 / 256), (y127), (wrap64 (x16_1 + 1)), (by first | rfl | (simp; done) | (simp [*]; done)), (by first | rfl | (simp; done) | (simp [*]; done)), H', ⟨by have := HK1.out; omega⟩, ⟨by (with_reducible repeat (first | apply Kd.R_alloc | apply Kd.R_drewN | apply Kd.R_drew)); exact HO129.out⟩, ⟨by repeat (first | (with_reducible first | exact HB.out | apply below_alloc | apply pw_below_drewN | apply below_drew1) | exact HB.out)⟩⟩
     ·rw [if_neg c9] at H
      exact absurd H (by simp)
    ·rw [if_neg c8] at H
     have c8b0 : decide (x16_1 < a2) = false := decide_eq_false c8
     clear c8
     simp only [Option.some.injEq, Prod.mk.injEq] at H
     obtain ⟨rfl, rfl⟩ := H
     go_wp2
     go_ret2
     exact ⟨_, by first | rfl | (simp [errW_none, errW_some] <;> rfl) | (simp [*, errW_none, errW_some] <;> rfl), by (with_reducible repeat (first | apply Kd.R_alloc | apply Kd.R_drewN | apply Kd.R_drew)); exact HO_8.out, by repeat (first | (with_reducible first | exact HB.out | apply below_alloc | apply pw_below_drewN | apply below_drew1) | exact HB.out)⟩
 ·replace c5 := Bool.eq_false_iff.mpr c5
  subst c5
  have H1 : (some (([] : List Int), 10)) = some (r1, r2) := by rw [if_neg (show ¬ (false = true) by decide)] at H <;> exact H
  clear H
  have H := H1
  clear H1
  simp only [Option.some.injEq, Prod.mk.injEq] at H
  obtain ⟨rfl, rfl⟩ := H
  go_enter Try.func66, Try.ntmps66
  go_wp2_with (first | ((with_reducible refine gate_callee (f := 82) rfl ?_); refine goesL_ (some 11) rfl rfl Try.func82 (by kernel_rfl) rfl #[.int .u64 a1, .int .i64 a2] rfl (by (try simp only [List.map_toArray, List.map_cons, List.map_nil]); first | done | rfl | (simp only [List.length_drop, List.length_take]; rfl)) ?_; (with_reducible refine (le_may.calls a1 a2 false _ A4.out).mono ?_); rintro e w' ⟨rfl, ⟨nd, rfl⟩⟩; refine ⟨_, rfl, ?_⟩))
  go_ret2
  exact ⟨_, by first | rfl | (simp [errW_none, errW_some] <;> rfl) | (simp [*, errW_none, errW_some] <;> rfl), by first | exact Kd.R_nil _ _ _ _ _ | exact Kd.N_nil _ _ _ _ _ | exact Kd.V_nil _ _ _ _ _ | exact Kd.Q_nil _ _ _ _ _ | exact Kd.S_nil _ _ _ _ _, by repeat (first | (with_reducible first | exact HB.out | apply below_alloc | apply pw_below_drewN | apply below_drew1) | exact HB.out)⟩
def le_Put.f (l0 : List Int) (a1 : Int) (a2 : Int) : Option (List Int × Int) := if 0 ≤ a1 ∧ a1 < 18446744073709551616 ∧ l0.length < 70368744177664 then some (Pl.putS l0 a1 a2) else none
theorem le_Put.loop : ∀ (d : Nat) (k : Nat) (n : Nat) (l : List Int) (s i : Int), d < k → 0 ≤ i → i + d = s → s ≤ 8 → l.length + d < 140737488355328 → le_Put_p.l0 k (n : Int) l s i = some (l ++ Pl.leB d n, 0)
 | 0, k, n, l, s, i, hk, h0, hd, hs, hl => by
  obtain ⟨k, rfl⟩ : ∃ m, k = m + 1 := ⟨k - 1, by omega⟩
  simp only [le_Put_p.l0]
  rw [if_neg (by omega), Pl.leB, List.append_nil]
 | d + 1, k, n, l, s, i, hk, h0, hd, hs, hl => by
  obtain ⟨k, rfl⟩ : ∃ m, k = m + 1 := ⟨k - 1, by omega⟩
  simp only [le_Put_p.l0]
  rw [if_pos (by omega), if_pos (by omega), show wrap64 (i + 1) = i + 1 from by unfold wrap64; omega, show (n : Int) / 256 = ((n / 256 : Nat) : Int) from by omega,
   le_Put.loop d k (n / 256) _ s (i + 1) (by omega) (by omega) (by omega) hs (by rw [List.length_append, List.length_singleton]; omega)]
  rw [Pl.leB, List.append_assoc, List.singleton_append, show (n : Int) % 256 = ((n % 256 : Nat) : Int) from by omega]
theorem le_may.tells (n : Nat) (hn : n < 18446744073709551616) (s : Int) : le_may.f n s = some (Pl.fits n s) := by
 unfold le_may.f
 by_cases h1 : s = 1
 ·subst h1
  have e : (wrap64 (8 * 1)) = 8 := by unfold wrap64; omega
  rw [if_pos rfl, e, if_pos (by decide), Pl.fits_1]
  simp only [shr, IntKind.bits, Option.some.injEq]
  rw [Bool.eq_iff_iff]
  simp
  omega
 by_cases h2 : s = 2
 ·subst h2
  have e : (wrap64 (8 * 2)) = 16 := by unfold wrap64; omega
  rw [if_neg (by decide), if_pos rfl, e, if_pos (by decide), Pl.fits_2]
  simp only [shr, IntKind.bits, Option.some.injEq]
  rw [Bool.eq_iff_iff]
  simp
  omega
 by_cases h4 : s = 4
 ·subst h4
  have e : (wrap64 (8 * 4)) = 32 := by unfold wrap64; omega
  rw [if_neg (by decide), if_neg (by decide), if_pos rfl, e, if_pos (by decide), Pl.fits_4]
  simp only [shr, IntKind.bits, Option.some.injEq]
  rw [Bool.eq_iff_iff]
  simp
  omega
 rw [if_neg h1, if_neg h2, if_neg h4]
 by_cases h8 : s = 8
 ·subst h8
  rw [Pl.fits_8 (by omega)]
  rfl
 ·rw [Pl.fits_no (by rw [← Bool.not_eq_true, Pl.okS_iff]; omega)]
  simpa using h8
theorem le_Put.tells {l0 : List Int} {a1 a2 : Int} {r : List Int × Int} (h : le_Put.f l0 a1 a2 = some r) : le_Put_p.f 10 l0 a1 a2 = some r := by
 unfold le_Put.f at h
 split at h
 case isFalse => cases h
 rename_i hh
 obtain ⟨h0, h1, h2⟩ := hh
 obtain rfl := Option.some.inj h
 obtain ⟨n, rfl⟩ := Int.eq_ofNat_of_zero_le h0
 unfold le_Put_p.f
 rw [le_may.tells n (by omega) a2, Option.bind_some]
 unfold Pl.putS
 by_cases hf : Pl.fits n a2 = true
 ·have hs : a2 = 1 ∨ a2 = 2 ∨ a2 = 4 ∨ a2 = 8 := by
   unfold Pl.fits at hf
   rw [Bool.and_eq_true, Pl.okS_iff] at hf
   exact hf.1
  rw [if_pos hf, if_pos hf]
  unfold bytes_Clone.f
  rw [if_pos (by omega), Option.bind_some, Int.toNat_natCast]
  exact le_Put.loop a2.toNat 10 n l0 a2 0 (by omega) (by omega) (by omega) (by omega) (by omega)
 ·rw [if_neg hf, if_neg hf]
theorem le_Put.calls (A0 : Option Addr) (c0 : Nat) (l0 : List Int) (a1 : Int) (a2 : Int) (r1 : List Int) (r2 : Int) (w : World) (hr0 : Kd.C (Kd.int .u8) w A0 l0.length l0) (hc0 : l0.length ≤ c0) (h : le_Put.f l0 a1 a2 = some (r1, r2)) :
  Calls Try.prog 66 #[.slice A0 l0.length c0, .int .u64 a1, .int .i64 a2] w fun e w' => ∃ v0_ : Value, e = .returned (.tuple #[v0_, .int .i64 r2]) ∧ Kd.R (Kd.int .u8) 5 w' w.heap.size (fun _ => True) v0_ r1 ∧ Below w.heap.size w w' :=
 le_Put_p.calls 10 A0 c0 l0 a1 a2 r1 r2 w hr0 hc0 (le_Put.tells h)
end Go.Proofs.Ytohkmmbmfhficaa.PG
namespace Go.Proofs.Ytohkmmbmfhficaa.PG
open Go.RowKit Go.Proofs.YtohkmmbmfhficaaW.PrintWords Go.Proofs.YtohkmmbmfhficaaW.PrintLast Go.Proofs.YtohkmmbmfhficaaW.PrintMore
attribute [local go_sem] max2_int min2_int max_two min_two max_three min_three max_four min_four
end Go.Proofs.Ytohkmmbmfhficaa.PG
