/- Words and walks that this claim names, of those that the kit's print and programs of this workplace have printed. -/
import Derived.Test.YtcemlfkboifncaaProg
import Derived.Below
import Derived.Deep.Draws
import Derived.Deep.AppendLies
import Derived.Maps.AppendAt
import Derived.OwnWalk
import Derived.Laws.BytesArg
import Derived.Laws.MakeOwn
import Derived.Laws.OwnMore
import Derived.Deep.OwnRows
import Derived.Tactics
import Derived.Lib.ConvBytes
import Derived.Laws.Slices
import Derived.WalkKit
import Derived.KernelRfl
import Derived.RowKit3
import Derived.Deep.LoopGhost
import Derived.Deep.QuietTactic
import Derived.BigQuiet
import Derived.WideLaws
import Derived.Deep.DeepCutAuto
import Derived.Deep.CutBlock
import Derived.Deep.RegionHeld3
import Derived.Laws.Rows
import Derived.Lib.AppendStr
import Derived.ArgAppend
import Derived.Laws.IdiomCopy
import Derived.OrdersHeld
import Derived.Laws.BitsLemmas
import Derived.RowKit
import Derived.Lib.SliceRun
import Derived.Test.YtcemlfkboifncaaZAStr
import Derived.Test.YtcemlfkboifncaaZAKd
import Derived.Deep.DeepMust
import Derived.Test.YtcemlfkboifncaaZALe
import Derived.Test.YtcemlfkboifncaaZACrc
import Derived.Test.YtcemlfkboifncaaZAArr
import Derived.Test.YtcemlfkboifncaaZAForm
import Derived.Test.YtcemlfkboifncaaZALast
import Derived.Laws.RangeAny
import Derived.Lib.OthersKept
import Derived.Laws.BitsAllLaws
import Derived.Test.YtcemlfkboifncaaZARec
import Derived.Test.YtcemlfkboifncaaZAScope
import Derived.Test.YtcemlfkboifncaaZAApp
import Derived.WalkMore
import Derived.Laws.StandIn
import Derived.Laws.Runes
import Derived.Lib.SlBytesConst
import Derived.Test.YtcemlfkboifncaaZAWWords
import Derived.Test.YtcemlfkboifncaaZAWLast
import Derived.Test.YtcemlfkboifncaaZAWTab
import Derived.Test.YtcemlfkboifncaaZAWApart
import Derived.Test.YtcemlfkboifncaaZAWFoot
import Derived.Test.YtcemlfkboifncaaZAWKept
import Derived.Test.YtcemlfkboifncaaZAWShare
import Derived.Test.YtcemlfkboifncaaZAWN
import Derived.Test.YtcemlfkboifncaaZAWRepsOne
import Derived.Test.YtcemlfkboifncaaZAWGuard
import Derived.Test.YtcemlfkboifncaaZAWNEv
import Derived.Test.YtcemlfkboifncaaZAWMore
namespace Go.Proofs.Ytcemlfkboifncaa.PA
open Go.RowKit Go.Proofs.YtcemlfkboifncaaW.PrintWords Go.Proofs.YtcemlfkboifncaaW.PrintLast Go.Proofs.YtcemlfkboifncaaW.PrintMore
attribute [local go_sem] max2_int min2_int max_two min_two max_three min_three max_four min_four
set_option linter.unusedVariables false
set_option linter.unusedSimpArgs false
def errW : Option Int → Value
  | none => .nilIface
  | some c => .iface 0 (.int .i64 c)
theorem errW_none : errW none = .nilIface := rfl
theorem errW_some (c : Int) : errW (some c) = .iface 0 (.int .i64 c) := rfl
theorem info3 : (Try.prog.info? 3).map (fun i => (i.zero, i.size, i.bytes)) = some (some (.int .i64 0), 1, 8) := by kernel_rfl
theorem info5 : (Try.prog.info? 5).map (fun i => (i.zero, i.size, i.bytes)) = some (some (.int .u8 0), 1, 1) := by kernel_rfl
theorem info25 : (Try.prog.info? 25).map (fun i => (i.zero, i.size, i.bytes)) = some (some (.agg #[(.int .i64 0), (.int .i64 0), (.slice none 0 0)]), 3, 40) := by kernel_rfl
theorem info68 : (Try.prog.info? 68).map (fun i => (i.zero, i.size, i.bytes)) = some (some (.int .u64 0), 1, 8) := by kernel_rfl
structure S25 where
  f0 : Int
  f1 : Int
  f2 : (List Int)
def z25 : S25 := ⟨(0 : Int), (0 : Int), ([] : List Int)⟩
def k25 : Kd S25 := Kd.iso (Kd.pair (Kd.int .i64) (Kd.pair (Kd.int .i64) (Kd.slice 5 (Kd.int .u8)))) (fun x : S25 => (x.f0, x.f1, x.f2))
theorem k25_open {w : World} {x : S25} {cs : List Value} (h : k25.K w x cs) : ∃ A2 c2, cs = [.int .i64 x.f0, .int .i64 x.f1, .slice A2 x.f2.length c2] ∧ x.f2.length ≤ c2 ∧ (Kd.int .u8).C w A2 x.f2.length x.f2 := by
  obtain ⟨_, _, rfl, rfl, ⟨_, _, rfl, rfl, ⟨A2, c2, rfl, l2, g2⟩⟩⟩ := h
  exact ⟨A2, c2, rfl, l2, g2⟩
theorem k25_mk (w : World) (x : S25) {A2 : Option Addr} {c2 : Nat} (l2 : x.f2.length ≤ c2) (g2 : (Kd.int .u8).C w A2 x.f2.length x.f2) : k25.K w x [.int .i64 x.f0, .int .i64 x.f1, .slice A2 x.f2.length c2] := ⟨[.int .i64 x.f0], [.int .i64 x.f1, .slice A2 x.f2.length c2], rfl, rfl, ⟨[.int .i64 x.f1], [.slice A2 x.f2.length c2], rfl, rfl, ⟨A2, c2, rfl, l2, g2⟩⟩⟩
theorem k25_mkM (w : World) (base : Nat) (ok : Nat → Prop) (x : S25) {v2 : Value} (g2 : (Kd.int .u8).R 5 w base ok v2 x.f2) : k25.M w base ok x [.int .i64 x.f0, .int .i64 x.f1, v2] := ⟨[.int .i64 x.f0], [.int .i64 x.f1, v2], rfl, rfl, ⟨[.int .i64 x.f1], [v2], rfl, rfl, ⟨v2, rfl, g2⟩⟩⟩
theorem k25_openF {W : World} {ok : Nat → Prop} {x : S25} {cs : List Value} (h : Kd.FK k25 W ok x cs) : ∃ A2 c2, cs = [.int .i64 x.f0, .int .i64 x.f1, .slice A2 x.f2.length c2] ∧ x.f2.length ≤ c2 ∧ Kd.F (Kd.int .u8) W ok A2 x.f2.length x.f2 := by
  obtain ⟨A2, c2, rfl, l2, _⟩ := k25_open (Kd.FK_now h)
  exact ⟨A2, c2, rfl, l2, (fun W' hW => by obtain ⟨A2_, c2_, he, l2_, g2_⟩ := k25_open (h W' hW); injection (Option.some.inj (show some (Value.slice A2 x.f2.length c2) = some (Value.slice A2_ x.f2.length c2_) from congrArg (fun l => l[2]?) he)) with ha_ _ _; rw [ha_]; exact g2_)⟩
theorem k25_mkF (W : World) (ok : Nat → Prop) (x : S25) {A2 : Option Addr} {c2 : Nat} (l2 : x.f2.length ≤ c2) (g2 : Kd.F (Kd.int .u8) W ok A2 x.f2.length x.f2) : Kd.FK k25 W ok x [.int .i64 x.f0, .int .i64 x.f1, .slice A2 x.f2.length c2] := fun W2 hW => k25_mk W2 x l2 (g2 W2 hW)
def rd_T25 (xs : List S25) (i : Int) : S25 := xs.getD i.toNat z25
theorem at_T25 {w : World} {A : Option Addr} {n : Nat} {xs : List S25} (h : Kd.C k25 w A n xs) (i : Int) (h0 : 0 ≤ i) (h1 : i < n) : ∃ ad A2 c2, A = some ad ∧ w.cell? (ad.add (i.toNat * 3)) = some (.int .i64 (rd_T25 xs i).f0) ∧ w.cell? ⟨(ad.add (i.toNat * 3)).block, (ad.add (i.toNat * 3)).off + 1, none⟩ = some (.int .i64 (rd_T25 xs i).f1) ∧ w.cell? ⟨(ad.add (i.toNat * 3)).block, (ad.add (i.toNat * 3)).off + 2, none⟩ = some (.slice A2 (rd_T25 xs i).f2.length c2) ∧ (rd_T25 xs i).f2.length ≤ c2 ∧ (Kd.int .u8).C w A2 (rd_T25 xs i).f2.length (rd_T25 xs i).f2 := by
  obtain ⟨ad, c, e, _, hK, hc0⟩ := Kd.C_get h z25 i h0 h1
  have hc : ∀ j u, c[j]? = some u → w.cell? (ad.add (i.toNat * 3 + j)) = some u := hc0
  obtain ⟨A2, c2, rfl, l2, g2⟩ := k25_open hK
  exact ⟨ad, A2, c2, e, hc 0 _ rfl, by rw [← add_field _ _ 1 (by omega)]; exact hc 1 _ rfl, by rw [← add_field _ _ 2 (by omega)]; exact hc 2 _ rfl, l2, g2⟩
end Go.Proofs.Ytcemlfkboifncaa.PA
namespace Go.Proofs.Ytcemlfkboifncaa.PA
open Go.RowKit Go.Proofs.YtcemlfkboifncaaW.PrintWords Go.Proofs.YtcemlfkboifncaaW.PrintLast Go.Proofs.YtcemlfkboifncaaW.PrintMore
attribute [local go_sem] max2_int min2_int max_two min_two max_three min_three max_four min_four
set_option linter.unusedVariables false
set_option linter.unusedSimpArgs false
def record_Check.f (a0_0 : Int) (a0_1 : Int) (l0_2 : List Int) : Option (Int) := if a0_0 < 1 then (some 50) else (if a0_0 > 5 then (some 50) else (if a0_1 < 0 then (some 50) else (if a0_1 > 4611686018427387903 then (some 50) else (if (l0_2.length : Int) > 4096 then (some 50) else (some 0)))))
set_option maxHeartbeats 8000000 in
set_option maxRecDepth 100000 in
theorem record_Check.calls (a0_0 : Int) (a0_1 : Int) (A0_2 : Option Addr) (c0_2 : Nat) (l0_2 : List Int) (r : Int) (w : World) (hr0_2 : Kd.C (Kd.int .u8) w A0_2 l0_2.length l0_2) (hc0_2 : l0_2.length ≤ c0_2) (h : record_Check.f a0_0 a0_1 l0_2 = some r) :
  Calls Try.prog 24 #[.agg #[.int .i64 a0_0, .int .i64 a0_1, .slice A0_2 l0_2.length c0_2]] w fun e w' => e = .returned (.int .i64 r) ∧ Below w.heap.size w w' := by
 have hu25 := Try.underlying25
 have HR0_2 := Aside0.mk hr0_2
 have HC0_2 := Aside0.mk hc0_2
 clear hr0_2 hc0_2
 have HB := Aside0.mk (Below.refl w.heap.size w)
 have H : (if a0_0 < 1 then (some 50) else (if a0_0 > 5 then (some 50) else (if a0_1 < 0 then (some 50) else (if a0_1 > 4611686018427387903 then (some 50) else (if (l0_2.length : Int) > 4096 then (some 50) else (some 0)))))) = some r := h
 clear h
 by_cases c2 : a0_0 < 1
 ·rw [if_pos c2] at H
  have c2b0 : decide (a0_0 < 1) = true := decide_eq_true c2
  clear c2
  obtain rfl := Option.some.inj H
  go_enter Try.func24, Try.ntmps24
  go_wp2_with (first | ((with_reducible refine gate_dst (N := 1) rfl ?_); (try (refine gate_guard (by rfl) ?_; dsimp only)); refine box_event ?hg (N := 1) ?hd (cs := #[.int .i64 a0_0, .int .i64 a0_1, .slice A0_2 l0_2.length c0_2]) (t := 25) ?hr ?_; (case hd => rfl); (case hg => rfl); (case hr => first | (go_simp; done) | (go_simp; rfl)); intro gb101 hg w3 hbox hb; have n0_ := Aside0.mk (below_step (by repeat (first | (with_reducible first | exact HB.out | apply below_alloc | apply pw_below_drewN | apply below_drew1) | exact HB.out)) hb); have n1_ := Aside0.mk (hbox); have n2_ := Aside0.mk ((by rw [hg]; exact (below_size (by repeat (first | (with_reducible first | exact HB.out | apply below_alloc | apply pw_below_drewN | apply below_drew1) | exact HB.out))) : w.heap.size ≤ gb101)); have n3_ := Aside0.mk ((by rw [hg]; exact (below_size (by repeat (first | (with_reducible first | exact HB.out | apply below_alloc | apply pw_below_drewN | apply below_drew1) | exact HB.out))) : w.heap.size ≤ gb101)); clear HB; have HB := n0_; have BK101 := n1_; have GW101 := n2_; have GE101 := n3_; clear n0_ n1_ n2_ n3_; clear hb hbox hg; have hcz4_0 : w3.cell? ⟨gb101, 0, none⟩ = some (.int .i64 a0_0) := (blk_cell BK101.out 0).trans rfl; have hcz4_1 : w3.cell? ⟨gb101, 1, none⟩ = some (.int .i64 a0_1) := (blk_cell BK101.out 1).trans rfl; have hcz4_2 : w3.cell? ⟨gb101, 2, none⟩ = some (.slice A0_2 l0_2.length c0_2) := (blk_cell BK101.out 2).trans rfl; have hfz4_0 := blk_frozen BK101.out 0; have hfz4_1 := blk_frozen BK101.out 1; have hfz4_2 := blk_frozen BK101.out 2))
  go_ret
  exact ⟨by first | rfl | (simp [errW_none, errW_some] <;> rfl) | (simp [*, errW_none, errW_some] <;> rfl), by repeat (first | (with_reducible first | exact HB.out | apply below_alloc | apply pw_below_drewN | apply below_drew1 | refine below_set ?_ GE101.out) | exact HB.out)⟩
 ·rw [if_neg c2] at H
  have c2b0 : decide (a0_0 < 1) = false := decide_eq_false c2
  clear c2
  by_cases c5 : a0_0 > 5
  ·rw [if_pos c5] at H
   have c5b0 : decide (5 < a0_0) = true := decide_eq_true c5
   clear c5
   obtain rfl := Option.some.inj H
   go_enter Try.func24, Try.ntmps24
   go_wp2_with (first | ((with_reducible refine gate_dst (N := 1) rfl ?_); (try (refine gate_guard (by rfl) ?_; dsimp only)); refine box_event ?hg (N := 1) ?hd (cs := #[.int .i64 a0_0, .int .i64 a0_1, .slice A0_2 l0_2.length c0_2]) (t := 25) ?hr ?_; (case hd => rfl); (case hg => rfl); (case hr => first | (go_simp; done) | (go_simp; rfl)); intro gb101 hg w6 hbox hb; have n0_ := Aside0.mk (below_step (by repeat (first | (with_reducible first | exact HB.out | apply below_alloc | apply pw_below_drewN | apply below_drew1) | exact HB.out)) hb); have n1_ := Aside0.mk (hbox); have n2_ := Aside0.mk ((by rw [hg]; exact (below_size (by repeat (first | (with_reducible first | exact HB.out | apply below_alloc | apply pw_below_drewN | apply below_drew1) | exact HB.out))) : w.heap.size ≤ gb101)); have n3_ := Aside0.mk ((by rw [hg]; exact (below_size (by repeat (first | (with_reducible first | exact HB.out | apply below_alloc | apply pw_below_drewN | apply below_drew1) | exact HB.out))) : w.heap.size ≤ gb101)); clear HB; have HB := n0_; have BK101 := n1_; have GW101 := n2_; have GE101 := n3_; clear n0_ n1_ n2_ n3_; clear hb hbox hg; have hcz7_0 : w6.cell? ⟨gb101, 0, none⟩ = some (.int .i64 a0_0) := (blk_cell BK101.out 0).trans rfl; have hcz7_1 : w6.cell? ⟨gb101, 1, none⟩ = some (.int .i64 a0_1) := (blk_cell BK101.out 1).trans rfl; have hcz7_2 : w6.cell? ⟨gb101, 2, none⟩ = some (.slice A0_2 l0_2.length c0_2) := (blk_cell BK101.out 2).trans rfl; have hfz7_0 := blk_frozen BK101.out 0; have hfz7_1 := blk_frozen BK101.out 1; have hfz7_2 := blk_frozen BK101.out 2))
   go_ret
   exact ⟨by first | rfl | (simp [errW_none, errW_some] <;> rfl) | (simp [*, errW_none, errW_some] <;> rfl), by repeat (first | (with_reducible first | exact HB.out | apply below_alloc | apply pw_below_drewN | apply below_drew1 | refine below_set ?_ GE101.out) | exact HB.out)⟩
  ·rw [if_neg c5] at H
   have c5b0 : decide (5 < a0_0) = false := decide_eq_false c5
   clear c5
   by_cases c8 : a0_1 < 0
   ·rw [if_pos c8] at H
    have c8b0 : decide (a0_1 < 0) = true := decide_eq_true c8
    clear c8
    obtain rfl := Option.some.inj H
    go_enter Try.func24, Try.ntmps24
    go_wp2_with (first | ((with_reducible refine gate_dst (N := 1) rfl ?_); (try (refine gate_guard (by rfl) ?_; dsimp only)); refine box_event ?hg (N := 1) ?hd (cs := #[.int .i64 a0_0, .int .i64 a0_1, .slice A0_2 l0_2.length c0_2]) (t := 25) ?hr ?_; (case hd => rfl); (case hg => rfl); (case hr => first | (go_simp; done) | (go_simp; rfl)); intro gb101 hg w9 hbox hb; have n0_ := Aside0.mk (below_step (by repeat (first | (with_reducible first | exact HB.out | apply below_alloc | apply pw_below_drewN | apply below_drew1) | exact HB.out)) hb); have n1_ := Aside0.mk (hbox); have n2_ := Aside0.mk ((by rw [hg]; exact (below_size (by repeat (first | (with_reducible first | exact HB.out | apply below_alloc | apply pw_below_drewN | apply below_drew1) | exact HB.out))) : w.heap.size ≤ gb101)); have n3_ := Aside0.mk ((by rw [hg]; exact (below_size (by repeat (first | (with_reducible first | exact HB.out | apply below_alloc | apply pw_below_drewN | apply below_drew1) | exact HB.out))) : w.heap.size ≤ gb101)); clear HB; have HB := n0_; have BK101 := n1_; have GW101 := n2_; have GE101 := n3_; clear n0_ n1_ n2_ n3_; clear hb hbox hg; have hcz10_0 : w9.cell? ⟨gb101, 0, none⟩ = some (.int .i64 a0_0) := (blk_cell BK101.out 0).trans rfl; have hcz10_1 : w9.cell? ⟨gb101, 1, none⟩ = some (.int .i64 a0_1) := (blk_cell BK101.out 1).trans rfl; have hcz10_2 : w9.cell? ⟨gb101, 2, none⟩ = some (.slice A0_2 l0_2.length c0_2) := (blk_cell BK101.out 2).trans rfl; have hfz10_0 := blk_frozen BK101.out 0; have hfz10_1 := blk_frozen BK101.out 1; have hfz10_2 := blk_frozen BK101.out 2))
    go_ret
    exact ⟨by first | rfl | (simp [errW_none, errW_some] <;> rfl) | (simp [*, errW_none, errW_some] <;> rfl), by repeat (first | (with_reducible first | exact HB.out | apply below_alloc | apply pw_below_drewN | apply below_drew1 | refine below_set ?_ GE101.out) | exact HB.out)⟩
   ·rw [if_neg c8] at H
    have c8b0 : decide (a0_1 < 0) = false := decide_eq_false c8
    clear c8
    by_cases c11 : a0_1 > 4611686018427387903
    ·rw [if_pos c11] at H
     have c11b0 : decide (4611686018427387903 < a0_1) = true := decide_eq_true c11
     clear c11
     obtain rfl := Option.some.inj H
     go_enter Try.func24, Try.ntmps24
     go_wp2_with (first | ((with_reducible refine gate_dst (N := 1) rfl ?_); (try (refine gate_guard (by rfl) ?_; dsimp only)); refine box_event ?hg (N := 1) ?hd (cs := #[.int .i64 a0_0, .int .i64 a0_1, .slice A0_2 l0_2.length c0_2]) (t := 25) ?hr ?_; (case hd => rfl); (case hg => rfl); (case hr => first | (go_simp; done) | (go_simp; rfl)); intro gb101 hg w12 hbox hb; have n0_ := Aside0.mk (below_step (by repeat (first | (with_reducible first | exact HB.out | apply below_alloc | apply pw_below_drewN | apply below_drew1) | exact HB.out)) hb); have n1_ := Aside0.mk (hbox); have n2_ := Aside0.mk ((by rw [hg]; exact (below_size (by repeat (first | (with_reducible first | exact HB.out | apply below_alloc | apply pw_below_drewN | apply below_drew1) | exact HB.out))) : w.heap.size ≤ gb101)); have n3_ := Aside0.mk ((by rw [hg]; exact (below_size (by repeat (first | (with_reducible first | exact HB.out | apply below_alloc | apply pw_below_drewN | apply below_drew1) | exact HB.out))) : w.heap.size ≤ gb101)); clear HB; have HB := n0_; have BK101 := n1_; have GW101 := n2_; have GE101 := n3_; clear n0_ n1_ n2_ n3_; clear hb hbox hg; have hcz13_0 : w12.cell? ⟨gb101, 0, none⟩ = some (.int .i64 a0_0) := (blk_cell BK101.out 0).trans rfl; have hcz13_1 : w12.cell? ⟨gb101, 1, none⟩ = some (.int .i64 a0_1) := (blk_cell BK101.out 1).trans rfl; have hcz13_2 : w12.cell? ⟨gb101, 2, none⟩ = some (.slice A0_2 l0_2.length c0_2) := (blk_cell BK101.out 2).trans rfl; have hfz13_0 := blk_frozen BK101.out 0; have hfz13_1 := blk_frozen BK101.out 1; have hfz13_2 := blk_frozen BK101.out 2))
     go_ret
     exact ⟨by first | rfl | (simp [errW_none, errW_some] <;> rfl) | (simp [*, errW_none, errW_some] <;> rfl), by repeat (first | (with_reducible first | exact HB.out | apply below_alloc | apply pw_below_drewN | apply below_drew1 | refine below_set ?_ GE101.out) | exact HB.out)⟩
    ·rw [if_neg c11] at H
     have c11b0 : decide (4611686018427387903 < a0_1) = false := decide_eq_false c11
     clear c11
     by_cases c14 : (l0_2.length : Int) > 4096
     ·rw [if_pos c14] at H
      have c14b0 : decide (4096 < (l0_2.length : Int)) = true := decide_eq_true c14
      have c14b1 : decide (4096 < l0_2.length) = true := decide_eq_true (by omega)
      clear c14
      obtain rfl := Option.some.inj H
      go_enter Try.func24, Try.ntmps24
      go_wp2_with (first | ((with_reducible refine gate_dst (N := 1) rfl ?_); (try (refine gate_guard (by rfl) ?_; dsimp only)); refine box_event ?hg (N := 1) ?hd (cs := #[.int .i64 a0_0, .int .i64 a0_1, .slice A0_2 l0_2.length c0_2]) (t := 25) ?hr ?_; (case hd => rfl); (case hg => rfl); (case hr => first | (go_simp; done) | (go_simp; rfl)); intro gb101 hg w15 hbox hb; have n0_ := Aside0.mk (below_step (by repeat (first | (with_reducible first | exact HB.out | apply below_alloc | apply pw_below_drewN | apply below_drew1) | exact HB.out)) hb); have n1_ := Aside0.mk (hbox); have n2_ := Aside0.mk ((by rw [hg]; exact (below_size (by repeat (first | (with_reducible first | exact HB.out | apply below_alloc | apply pw_below_drewN | apply below_drew1) | exact HB.out))) : w.heap.size ≤ gb101)); have n3_ := Aside0.mk ((by rw [hg]; exact (below_size (by repeat (first | (with_reducible first | exact HB.out | apply below_alloc | apply pw_below_drewN | apply below_drew1) | exact HB.out))) : w.heap.size ≤ gb101)); clear HB; have HB := n0_; have BK101 := n1_; have GW101 := n2_; have GE101 := n3_; clear n0_ n1_ n2_ n3_; clear hb hbox hg; have hcz16_0 : w15.cell? ⟨gb101, 0, none⟩ = some (.int .i64 a0_0) := (blk_cell BK101.out 0).trans rfl; have hcz16_1 : w15.cell? ⟨gb101, 1, none⟩ = some (.int .i64 a0_1) := (blk_cell BK101.out 1).trans rfl; have hcz16_2 : w15.cell? ⟨gb101, 2, none⟩ = some (.slice A0_2 l0_2.length c0_2) := (blk_cell BK101.out 2).trans rfl; have hfz16_0 := blk_frozen BK101.out 0; have hfz16_1 := blk_frozen BK101.out 1; have hfz16_2 := blk_frozen BK101.out 2))
      go_ret
      exact ⟨by first | rfl | (simp [errW_none, errW_some] <;> rfl) | (simp [*, errW_none, errW_some] <;> rfl), by repeat (first | (with_reducible first | exact HB.out | apply below_alloc | apply pw_below_drewN | apply below_drew1 | refine below_set ?_ GE101.out) | exact HB.out)⟩
     ·rw [if_neg c14] at H
      have c14b0 : decide (4096 < (l0_2.length : Int)) = false := decide_eq_false c14
      have c14b1 : decide (4096 < l0_2.length) = false := decide_eq_false (by omega)
      clear c14
      obtain rfl := Option.some.inj H
      go_enter Try.func24, Try.ntmps24
      go_wp2_with (first | ((with_reducible refine gate_dst (N := 1) rfl ?_); (try (refine gate_guard (by rfl) ?_; dsimp only)); refine box_event ?hg (N := 1) ?hd (cs := #[.int .i64 a0_0, .int .i64 a0_1, .slice A0_2 l0_2.length c0_2]) (t := 25) ?hr ?_; (case hd => rfl); (case hg => rfl); (case hr => first | (go_simp; done) | (go_simp; rfl)); intro gb101 hg w17 hbox hb; have n0_ := Aside0.mk (below_step (by repeat (first | (with_reducible first | exact HB.out | apply below_alloc | apply pw_below_drewN | apply below_drew1) | exact HB.out)) hb); have n1_ := Aside0.mk (hbox); have n2_ := Aside0.mk ((by rw [hg]; exact (below_size (by repeat (first | (with_reducible first | exact HB.out | apply below_alloc | apply pw_below_drewN | apply below_drew1) | exact HB.out))) : w.heap.size ≤ gb101)); have n3_ := Aside0.mk ((by rw [hg]; exact (below_size (by repeat (first | (with_reducible first | exact HB.out | apply below_alloc | apply pw_below_drewN | apply below_drew1) | exact HB.out))) : w.heap.size ≤ gb101)); clear HB; have HB := n0_; have BK101 := n1_; have GW101 := n2_; have GE101 := n3_; clear n0_ n1_ n2_ n3_; clear hb hbox hg; have hcz18_0 : w17.cell? ⟨gb101, 0, none⟩ = some (.int .i64 a0_0) := (blk_cell BK101.out 0).trans rfl; have hcz18_1 : w17.cell? ⟨gb101, 1, none⟩ = some (.int .i64 a0_1) := (blk_cell BK101.out 1).trans rfl; have hcz18_2 : w17.cell? ⟨gb101, 2, none⟩ = some (.slice A0_2 l0_2.length c0_2) := (blk_cell BK101.out 2).trans rfl; have hfz18_0 := blk_frozen BK101.out 0; have hfz18_1 := blk_frozen BK101.out 1; have hfz18_2 := blk_frozen BK101.out 2))
      go_ret
      exact ⟨by first | rfl | (simp [errW_none, errW_some] <;> rfl) | (simp [*, errW_none, errW_some] <;> rfl), by repeat (first | (with_reducible first | exact HB.out | apply below_alloc | apply pw_below_drewN | apply below_drew1 | refine below_set ?_ GE101.out) | exact HB.out)⟩
def bytes_Clone.f (l0 : List Int) : Option (List Int) := if l0.length < 140737488355328 then some l0 else none
set_option maxHeartbeats 1000000 in
theorem bytes_Clone.calls (A0 : Option Addr) (c0 : Nat) (l0 : List Int) (r : List Int) (w : World) (hr0 : Kd.C (Kd.int .u8) w A0 l0.length l0) (hc0 : l0.length ≤ c0) (h : bytes_Clone.f l0 = some r) :
  Calls Try.prog 56 #[.slice A0 l0.length c0] w fun e w' => ∃ v0_ : Value, e = .returned (v0_) ∧ Kd.R (Kd.int .u8) 5 w' w.heap.size (fun _ => True) v0_ r ∧ Below w.heap.size w w' := by
 have HR0 := Aside0.mk hr0
 clear hr0 hc0
 unfold bytes_Clone.f at h
 by_cases hl : l0.length < 140737488355328
 ·rw [if_pos hl] at h
  obtain rfl := Option.some.inj h
  have HL := Aside0.mk hl
  clear h hl
  have HB := Aside0.mk (Below.refl w.heap.size w)
  cases A0 with
  | none =>
   obtain rfl : l0 = [] := by
    cases l0 with
    | nil => rfl
    | cons x xs => obtain ⟨ad, h, _⟩ := HR0.out.2.2 (by simp); cases h
   have hq := fun (w : World) => Lib.run_eql_slice_nil (P := Try.prog) w 23 5 none 0 c0 0 0 Try.underlying23
   simp only [List.length_nil]
   go_enter Try.func56, Try.ntmps56
   go_wp2
   go_ret
   exact ⟨_, rfl, Kd.R_nil _ _ _ _ _, Below.refl _ _⟩
  | some ad =>
   have hq := fun (w : World) => Lib.run_eql_slice_nil (P := Try.prog) w 23 5 (some ad) l0.length c0 0 0 Try.underlying23
   go_enter Try.func56, Try.ntmps56
   go_wp2_with (first | ((with_reducible refine gate_dst (N := 5) rfl ?_); refine Kd.R_lit (Kd.int .u8) _ 5 ?hg (N := 5) ?hd (xs := ([] : List Int)) (inner := []) (ok := fun _ => True) (okp := fun _ => True) ?hr ?hp (fun _ hk => hk) trivial (Below.refl _ _) (Nat.le_refl _) (by simp) ?_; (case hd => rfl); (case hg => rfl); (case hr => first | (go_simp; done) | (go_simp; rfl)); (case hp => exact (Reps.none _ _)); intro v110 w13 ho14 hb hg_ hnew_; clear hg_ hnew_; have n0_ := Aside0.mk (Kd.R_lower ho14 (below_size HB.out)); have n1_ := Aside0.mk (below_step HB.out hb); clear HB; have HO111 := n0_; have HB := n1_; clear n0_ n1_; clear hb ho14) | ((with_reducible refine gate_builtin (b := .append) (xs := #[.tmp 5, .tmp 6]) rfl ?_); at_builtin; refine Kd.R_append_rows (Kd.int .u8) (w0 := w) w.heap.size rfl (.tmp 5) (.tmp 6) 23 5 (.int .u8 0) 1 rfl Try.underlying23 info5 rfl (by decide) (by omega) v110 [] l0 _ _ _ (fun _ => True) (fun _ => False) rfl rfl ?aO ?aR (fun _ _ h => h) (fun _ h => h.elim) ?aF ?aB ?aS ?aL ?_; (case aR => repeat (first | exact (Kd.C_below HR0.out HB.out) | (with_reducible refine Kd.C_alloc ?_ _) | (with_reducible refine Kd.C_drewN ?_ _) | (with_reducible refine Kd.C_drew ?_))); (case aB => exact HB.out); (case aF => exact (fun _ _ => trivial)); (case aO => exact HO111.out); (case aS => exact below_size HB.out); (case aL => have := HL.out; simp; omega); intro v113 w15 ho hb hg hat; have n0_ := Aside0.mk (hb); have n1_ := Aside0.mk (ho); clear HB; clear HO111; have HB := n0_; have HO114 := n1_; clear n0_ n1_; clear ho hb hg hat))
   go_ret
   exact ⟨_, rfl, HO114.out, HB.out⟩
 ·rw [if_neg hl] at h
  cases h
def le_may.f (a0 : Int) (a1 : Int) : Option (Bool) := if a1 = 1 then (if 0 ≤ (wrap64 (8 * a1)) then (some ((shr .u64 a0 (wrap64 (8 * a1))) == 0)) else (none)) else (if a1 = 2 then (if 0 ≤ (wrap64 (8 * a1)) then (some ((shr .u64 a0 (wrap64 (8 * a1))) == 0)) else (none)) else (if a1 = 4 then (if 0 ≤ (wrap64 (8 * a1)) then (some ((shr .u64 a0 (wrap64 (8 * a1))) == 0)) else (none)) else (some (a1 == 8))))
set_option maxHeartbeats 8000000 in
set_option maxRecDepth 100000 in
theorem le_may.calls (a0 : Int) (a1 : Int) (r : Bool) (w : World) (h : le_may.f a0 a1 = some r) :
  Calls Try.prog 72 #[.int .u64 a0, .int .i64 a1] w fun e w' => e = .returned (.bool r) ∧ Drawn0 w w' := by
 have H : (if a1 = 1 then (if 0 ≤ (wrap64 (8 * a1)) then (some ((shr .u64 a0 (wrap64 (8 * a1))) == 0)) else (none)) else (if a1 = 2 then (if 0 ≤ (wrap64 (8 * a1)) then (some ((shr .u64 a0 (wrap64 (8 * a1))) == 0)) else (none)) else (if a1 = 4 then (if 0 ≤ (wrap64 (8 * a1)) then (some ((shr .u64 a0 (wrap64 (8 * a1))) == 0)) else (none)) else (some (a1 == 8))))) = some r := h
 clear h
 by_cases c3 : a1 = 1
 ·rw [if_pos c3] at H
  have c3b0 : (a1 == 1) = true := beq_iff_eq.mpr c3
  have c3b1 : (a1 != 1) = false := bne_eq_false_iff_eq.mpr c3
  clear c3
  obtain ⟨ji4, hji4⟩ : ∃ j_ : Int, (wrap64 (8 * a1)) = j_ := ⟨_, rfl⟩
  replace H : (if 0 ≤ (ji4) then (some ((shr .u64 a0 (ji4)) == 0)) else (none)) = some r := by first | (rw [hji4] at H; exact H) | (simp only [hji4] at H ⊢; exact H)
  have hji4w : (IntKind.i64.wrap (8 * a1)) = ji4 := (i64_w _).trans hji4
  by_cases c5 : 0 ≤ (ji4)
  ·rw [if_pos c5] at H
   have c5b0 := eq_true c5
   have c5b1 : decide (0 ≤ (ji4)) = true := decide_eq_true c5
   clear c5
   obtain ⟨ji6, hji6⟩ : ∃ j_ : Int, (shr .u64 a0 (ji4)) = j_ := ⟨_, rfl⟩
   replace H : (some ((ji6) == 0)) = some r := by first | (rw [hji6] at H; exact H) | (simp only [hji6] at H ⊢; exact H)
   have hji6_ : (a0 / 2 ^ min (ji4).toNat 64) = ji6 := hji6
   have hji6z : (ji4) ≤ 64 → (a0 / 2 ^ (ji4).toNat) = ji6 := shr_small hji6
   obtain rfl := Option.some.inj H
   go_enter Try.func72, Try.ntmps72
   go_wp2
   go_ret
   exact ⟨by first | rfl | (simp; done) | (simp only [← hji4, ← hji6] <;> (first | rfl | simp)) | (simp [*]; done), by repeat (first | exact Drawn0.refl _ | apply Drawn0.step)⟩
  ·rw [if_neg c5] at H
   exact absurd H (by simp)
 ·rw [if_neg c3] at H
  have c3b0 : (a1 == 1) = false := beq_eq_false_iff_ne.mpr c3
  have c3b1 : (a1 != 1) = true := bne_iff_ne.mpr c3
  by_cases c7 : a1 = 2
  ·rw [if_pos c7] at H
   have c7b0 : (a1 == 2) = true := beq_iff_eq.mpr c7
   have c7b1 : (a1 != 2) = false := bne_eq_false_iff_eq.mpr c7
   clear c7
   obtain ⟨ji8, hji8⟩ : ∃ j_ : Int, (wrap64 (8 * a1)) = j_ := ⟨_, rfl⟩
   replace H : (if 0 ≤ (ji8) then (some ((shr .u64 a0 (ji8)) == 0)) else (none)) = some r := by first | (rw [hji8] at H; exact H) | (simp only [hji8] at H ⊢; exact H)
   have hji8w : (IntKind.i64.wrap (8 * a1)) = ji8 := (i64_w _).trans hji8
   by_cases c9 : 0 ≤ (ji8)
   ·rw [if_pos c9] at H
    have c9b0 := eq_true c9
    have c9b1 : decide (0 ≤ (ji8)) = true := decide_eq_true c9
    clear c9
    obtain ⟨ji10, hji10⟩ : ∃ j_ : Int, (shr .u64 a0 (ji8)) = j_ := ⟨_, rfl⟩
    replace H : (some ((ji10) == 0)) = some r := by first | (rw [hji10] at H; exact H) | (simp only [hji10] at H ⊢; exact H)
    have hji10_ : (a0 / 2 ^ min (ji8).toNat 64) = ji10 := hji10
    have hji10z : (ji8) ≤ 64 → (a0 / 2 ^ (ji8).toNat) = ji10 := shr_small hji10
    obtain rfl := Option.some.inj H
    go_enter Try.func72, Try.ntmps72
    go_wp2
    go_ret
    exact ⟨by first | rfl | (simp; done) | (simp only [← hji8, ← hji10] <;> (first | rfl | simp)) | (simp [*]; done), by repeat (first | exact Drawn0.refl _ | apply Drawn0.step)⟩
   ·rw [if_neg c9] at H
    exact absurd H (by simp)
  ·rw [if_neg c7] at H
   have c7b0 : (a1 == 2) = false := beq_eq_false_iff_ne.mpr c7
   have c7b1 : (a1 != 2) = true := bne_iff_ne.mpr c7
   by_cases c11 : a1 = 4
   ·rw [if_pos c11] at H
    have c11b0 : (a1 == 4) = true := beq_iff_eq.mpr c11
    have c11b1 : (a1 != 4) = false := bne_eq_false_iff_eq.mpr c11
    clear c11
    obtain ⟨ji12, hji12⟩ : ∃ j_ : Int, (wrap64 (8 * a1)) = j_ := ⟨_, rfl⟩
    replace H : (if 0 ≤ (ji12) then (some ((shr .u64 a0 (ji12)) == 0)) else (none)) = some r := by first | (rw [hji12] at H; exact H) | (simp only [hji12] at H ⊢; exact H)
    have hji12w : (IntKind.i64.wrap (8 * a1)) = ji12 := (i64_w _).trans hji12
    by_cases c13 : 0 ≤ (ji12)
    ·rw [if_pos c13] at H
     have c13b0 := eq_true c13
     have c13b1 : decide (0 ≤ (ji12)) = true := decide_eq_true c13
     clear c13
     obtain ⟨ji14, hji14⟩ : ∃ j_ : Int, (shr .u64 a0 (ji12)) = j_ := ⟨_, rfl⟩
     replace H : (some ((ji14) == 0)) = some r := by first | (rw [hji14] at H; exact H) | (simp only [hji14] at H ⊢; exact H)
     have hji14_ : (a0 / 2 ^ min (ji12).toNat 64) = ji14 := hji14
     have hji14z : (ji12) ≤ 64 → (a0 / 2 ^ (ji12).toNat) = ji14 := shr_small hji14
     obtain rfl := Option.some.inj H
     go_enter Try.func72, Try.ntmps72
     go_wp2
     go_ret
     exact ⟨by first | rfl | (simp; done) | (simp only [← hji12, ← hji14] <;> (first | rfl | simp)) | (simp [*]; done), by repeat (first | exact Drawn0.refl _ | apply Drawn0.step)⟩
    ·rw [if_neg c13] at H
     exact absurd H (by simp)
   ·rw [if_neg c11] at H
    have c11b0 : (a1 == 4) = false := beq_eq_false_iff_ne.mpr c11
    have c11b1 : (a1 != 4) = true := bne_iff_ne.mpr c11
    obtain rfl := Option.some.inj H
    go_enter Try.func72, Try.ntmps72
    go_wp2
    go_ret
    exact ⟨by first | rfl | (simp; done) | (simp [*]; done), by repeat (first | exact Drawn0.refl _ | apply Drawn0.step)⟩
def le_Put_p.l0 : Nat → Int → List Int → Int → Int → Option (List Int × Int)
 | 0, _, _, _, _ => none
 | k + 1, x1, x8, x15, x16 => if x16 < x15 then (if x8.length < 140737488355328 then (le_Put_p.l0 k (x1 / 256) (x8 ++ [(x1) % 256]) x15 (wrap64 (x16 + 1))) else (none)) else (some (x8, 0))
def le_Put_p.f (k : Nat) (l0 : List Int) (a1 : Int) (a2 : Int) : Option (List Int × Int) := (le_may.f a1 a2).bind fun t102 => (if t102 = true then ((bytes_Clone.f l0).bind fun t103 => (le_Put_p.l0 k a1 t103 a2 0)) else (some (([] : List Int), 10)))
set_option maxHeartbeats 8000000 in
set_option maxRecDepth 100000 in
theorem le_Put_p.calls (k : Nat) (A0 : Option Addr) (c0 : Nat) (l0 : List Int) (a1 : Int) (a2 : Int) (r1 : List Int) (r2 : Int) (w : World) (hr0 : Kd.C (Kd.int .u8) w A0 l0.length l0) (hc0 : l0.length ≤ c0) (h : le_Put_p.f k l0 a1 a2 = some (r1, r2)) :
  Calls Try.prog 63 #[.slice A0 l0.length c0, .int .u64 a1, .int .i64 a2] w fun e w' => ∃ v0_ : Value, e = .returned (.tuple #[v0_, .int .i64 r2]) ∧ Kd.R (Kd.int .u8) 5 w' w.heap.size (fun _ => True) v0_ r1 ∧ Below w.heap.size w w' := by
 have HR0 := Aside0.mk hr0
 have HC0 := Aside0.mk hc0
 clear hr0 hc0
 have HB := Aside0.mk (Below.refl w.heap.size w)
 have H : ((le_may.f a1 a2).bind fun t102 => (if t102 = true then ((bytes_Clone.f l0).bind fun t103 => (le_Put_p.l0 k a1 t103 a2 0)) else (some (([] : List Int), 10)))) = some (r1, r2) := h
 clear h
 replace H := Option.bind_eq_some_iff.mp H
 obtain ⟨t102, A40, H⟩ := H
 replace H : (if t102 = true then ((bytes_Clone.f l0).bind fun t103 => (le_Put_p.l0 k a1 t103 a2 0)) else (some (([] : List Int), 10))) = some (r1, r2) := H
 have A4 := Aside0.mk A40
 clear A40
 by_cases c5 : t102 = true
 ·subst c5
  have H1 : ((bytes_Clone.f l0).bind fun t103 => (le_Put_p.l0 k a1 t103 a2 0)) = some (r1, r2) := by rw [if_pos rfl] at H <;> exact H
  clear H
  have H := H1
  clear H1
  replace H := Option.bind_eq_some_iff.mp H
  obtain ⟨t103, A60, H⟩ := H
  replace H : (le_Put_p.l0 k a1 t103 a2 0) = some (r1, r2) := H
  have A6 := Aside0.mk A60
  clear A60
  have H' := Aside0.mk H
  clear H
  go_enter Try.func63, Try.ntmps63
  go_wp2_with (first | ((with_reducible refine gate_callee (f := 72) rfl ?_); refine goesL_ (some 11) rfl rfl Try.func72 (by kernel_rfl) rfl #[.int .u64 a1, .int .i64 a2] rfl (by (try simp only [List.map_toArray, List.map_cons, List.map_nil]); first | done | rfl | (simp only [List.length_drop, List.length_take]; rfl)) ?_; (with_reducible refine (le_may.calls a1 a2 true _ A4.out).mono ?_); rintro e w' ⟨rfl, ⟨nd, rfl⟩⟩; refine ⟨_, rfl, ?_⟩) | ((with_reducible refine gate_callee (f := 56) rfl ?_); refine goesL_ (some 14) rfl rfl Try.func56 (by kernel_rfl) rfl #[.slice A0 l0.length c0] rfl (by (try simp only [List.map_toArray, List.map_cons, List.map_nil]); first | done | rfl | (simp only [List.length_drop, List.length_take]; rfl)) ?_; (with_reducible refine (bytes_Clone.calls _ _ l0 t103 _ ?side1 ?side2 A6.out).mono ?_); (case side1 => repeat (first | exact HR0.out | (with_reducible refine Kd.C_alloc ?_ _) | (with_reducible refine Kd.C_drewN ?_ _) | (with_reducible refine Kd.C_drew ?_))); (case side2 => exact HC0.out); rintro e w7 ⟨v104, rfl, ho0, hb⟩; refine ⟨_, rfl, ?_⟩; have n0_ := Aside0.mk (Kd.R_lower ho0 (below_size (by repeat (first | (with_reducible first | exact HB.out | apply below_alloc | apply pw_below_drewN | apply below_drew1) | exact HB.out)))); have n1_ := Aside0.mk (below_step (by repeat (first | (with_reducible first | exact HB.out | apply below_alloc | apply pw_below_drewN | apply below_drew1) | exact HB.out)) hb); clear HB; have HO105 := n0_; have HB := n1_; clear n0_ n1_; (try clear hb); (try clear hb2); (try clear hk); (try clear hi); (try clear ho0)))
  go_loopg [1, 8, 16] k (fun kq v1 v8 v16 w' => ∃ (x1_1 : Int) (x8_1 : List Int) (x16_1 : Int), v1 = .int .u64 x1_1 ∧ v16 = .int .i64 x16_1 ∧ Aside0 (le_Put_p.l0 kq x1_1 x8_1 a2 x16_1 = some (r1, r2)) ∧ Aside0 (kq ≤ k) ∧ Aside0 (Kd.R (Kd.int .u8) 5 w' w.heap.size (fun _ => True) v8 x8_1) ∧ Aside0 (Below w.heap.size w w'))
  case atStart => exact ⟨(a1), (t103), (0), (by first | rfl | (simp; done) | (simp [*]; done)), (by first | rfl | (simp; done) | (simp [*]; done)), H', ⟨Nat.le_refl _⟩, ⟨by (with_reducible repeat (first | apply Kd.R_alloc | apply Kd.R_drewN | apply Kd.R_drew)); exact HO105.out⟩, ⟨by repeat (first | (with_reducible first | exact HB.out | apply below_alloc | apply pw_below_drewN | apply below_drew1) | exact HB.out)⟩⟩
  case round =>
   clear H'
   try clear p2
   try clear c5
   try clear c6
   try clear c7
   obtain ⟨x1_1, x8_1, x16_1, rfl, rfl, HA, HK1, HO_8, HB⟩ := hrel
   cases gk with
   | zero => exact absurd HA.out (by simp [le_Put_p.l0])
   | succ k1 =>
    have H := HA.out
    clear HA
    simp only [le_Put_p.l0] at H
    by_cases c8 : x16_1 < a2
    ·rw [if_pos c8] at H
     have c8b0 : decide (x16_1 < a2) = true := decide_eq_true c8
     clear c8
     by_cases c9 : x8_1.length < 140737488355328
     ·rw [if_pos c9] at H
      have LMc9 := Aside0.mk c9
      clear c9
      obtain ⟨y106, hy106⟩ : ∃ y_ : List Int, y_ = (x8_1 ++ [(x1_1) % 256]) := ⟨_, rfl⟩
      replace H : (le_Put_p.l0 k1 (x1_1 / 256) y106 a2 (wrap64 (x16_1 + 1))) = some (r1, r2) := by first | (rw [hy106]; with_reducible exact H) | (have H2_ := (Option.bind_some _ _).symm.trans H; rw [hy106]; with_reducible exact H2_) | (have H2_ := (Option.bind_some _ _).symm.trans H; with_reducible exact H2_) | with_reducible exact H | (rw [hy106]; exact H) | exact H
      have Ny106 := Aside0.mk hy106
      clear hy106
      have H' := Aside0.mk H
      clear H
      go_wp2_with (first | ((with_reducible refine gate_builtin (b := .append) (xs := #[.tmp 18, .tmp 21]) rfl ?_); at_builtin; refine Kd.R_append (Kd.int .u8) (w0 := w) w.heap.size rfl (.tmp 18) (.tmp 21) 23 5 (.int .u8 0) 1 rfl Try.underlying23 info5 rfl (by decide) (by omega) u8 x8_1 ((x1_1) % 256) [.int .u8 ((x1_1) % 256)] (fun _ => True) (fun _ => False) rfl rfl ?aP (fun _ hk => hk.elim) ?aF ?aO ?aB ?aS ?aL ?_; (case aP => exact rfl); (case aB => exact (by repeat (first | (with_reducible first | exact HB.out | apply below_alloc | apply pw_below_drewN | apply below_drew1) | exact HB.out))); (case aF => exact (fun _ _ => trivial)); (case aO => exact (by (with_reducible repeat (first | apply Kd.R_alloc | apply Kd.R_drewN | apply Kd.R_drew)); exact HO_8.out)); (case aS => exact (below_size (by repeat (first | (with_reducible first | exact HB.out | apply below_alloc | apply pw_below_drewN | apply below_drew1) | exact HB.out)))); (case aL => have := LMc9.out; omega); intro v107 w10 ho hb hg hat; rw [← Ny106.out] at ho; have n0_ := Aside0.mk (hb); have n1_ := Aside0.mk (ho); clear HB; clear HO_8; have HB := n0_; have HO108 := n1_; clear n0_ n1_; clear ho hb hg hat))
      go_roundg k1
      case measure => have := HK1.out; omega
      case rel => exact ⟨(x1_1 / 256), (y106), (wrap64 (x16_1 + 1)), (by first | rfl | (simp; done) | (simp [*]; done)), (by first | rfl | (simp; done) | (simp [*]; done)), H', ⟨by have := HK1.out; omega⟩, ⟨by (with_reducible repeat (first | apply Kd.R_alloc | apply Kd.R_drewN | apply Kd.R_drew)); exact HO108.out⟩, ⟨by repeat (first | (with_reducible first | exact HB.out | apply below_alloc | apply pw_below_drewN | apply below_drew1) | exact HB.out)⟩⟩
     ·rw [if_neg c9] at H
      exact absurd H (by simp)
    ·rw [if_neg c8] at H
     have c8b0 : decide (x16_1 < a2) = false := decide_eq_false c8
     clear c8
     simp only [Option.some.injEq, Prod.mk.injEq] at H
     obtain ⟨rfl, rfl⟩ := H
     go_wp2
     go_ret2
     exact ⟨_, by first | rfl | (simp [errW_none, errW_some] <;> rfl) | (simp [*, errW_none, errW_some] <;> rfl), by (with_reducible repeat (first | apply Kd.R_alloc | apply Kd.R_drewN | apply Kd.R_drew)); exact HO_8.out, by repeat (first | (with_reducible first | exact HB.out | apply below_alloc | apply pw_below_drewN | apply below_drew1) | exact HB.out)⟩
 ·replace c5 := Bool.eq_false_iff.mpr c5
  subst c5
  have H1 : (some (([] : List Int), 10)) = some (r1, r2) := by rw [if_neg (show ¬ (false = true) by decide)] at H <;> exact H
  clear H
  have H := H1
  clear H1
  simp only [Option.some.injEq, Prod.mk.injEq] at H
  obtain ⟨rfl, rfl⟩ := H
  go_enter Try.func63, Try.ntmps63
  go_wp2_with (first | ((with_reducible refine gate_callee (f := 72) rfl ?_); refine goesL_ (some 11) rfl rfl Try.func72 (by kernel_rfl) rfl #[.int .u64 a1, .int .i64 a2] rfl (by (try simp only [List.map_toArray, List.map_cons, List.map_nil]); first | done | rfl | (simp only [List.length_drop, List.length_take]; rfl)) ?_; (with_reducible refine (le_may.calls a1 a2 false _ A4.out).mono ?_); rintro e w' ⟨rfl, ⟨nd, rfl⟩⟩; refine ⟨_, rfl, ?_⟩))
  go_ret2
  exact ⟨_, by first | rfl | (simp [errW_none, errW_some] <;> rfl) | (simp [*, errW_none, errW_some] <;> rfl), by first | exact Kd.R_nil _ _ _ _ _ | exact Kd.N_nil _ _ _ _ _ | exact Kd.V_nil _ _ _ _ _ | exact Kd.Q_nil _ _ _ _ _ | exact Kd.S_nil _ _ _ _ _, by repeat (first | (with_reducible first | exact HB.out | apply below_alloc | apply pw_below_drewN | apply below_drew1) | exact HB.out)⟩
def le_Put.f (l0 : List Int) (a1 : Int) (a2 : Int) : Option (List Int × Int) := if 0 ≤ a1 ∧ a1 < 18446744073709551616 ∧ l0.length < 70368744177664 then some (Pl.putS l0 a1 a2) else none
theorem le_Put.loop : ∀ (d : Nat) (k : Nat) (n : Nat) (l : List Int) (s i : Int), d < k → 0 ≤ i → i + d = s → s ≤ 8 → l.length + d < 140737488355328 → le_Put_p.l0 k (n : Int) l s i = some (l ++ Pl.leB d n, 0)
 | 0, k, n, l, s, i, hk, h0, hd, hs, hl => by
  obtain ⟨k, rfl⟩ : ∃ m, k = m + 1 := ⟨k - 1, by omega⟩
  simp only [le_Put_p.l0]
  rw [if_neg (by omega), Pl.leB, List.append_nil]
 | d + 1, k, n, l, s, i, hk, h0, hd, hs, hl => by
  obtain ⟨k, rfl⟩ : ∃ m, k = m + 1 := ⟨k - 1, by omega⟩
  simp only [le_Put_p.l0]
  rw [if_pos (by omega), if_pos (by omega), show wrap64 (i + 1) = i + 1 from by unfold wrap64; omega, show (n : Int) / 256 = ((n / 256 : Nat) : Int) from by omega,
   le_Put.loop d k (n / 256) _ s (i + 1) (by omega) (by omega) (by omega) hs (by rw [List.length_append, List.length_singleton]; omega)]
  rw [Pl.leB, List.append_assoc, List.singleton_append, show (n : Int) % 256 = ((n % 256 : Nat) : Int) from by omega]
theorem le_may.tells (n : Nat) (hn : n < 18446744073709551616) (s : Int) : le_may.f n s = some (Pl.fits n s) := by
 unfold le_may.f
 by_cases h1 : s = 1
 ·subst h1
  have e : (wrap64 (8 * 1)) = 8 := by unfold wrap64; omega
  rw [if_pos rfl, e, if_pos (by decide), Pl.fits_1]
  simp only [shr, IntKind.bits, Option.some.injEq]
  rw [Bool.eq_iff_iff]
  simp
  omega
 by_cases h2 : s = 2
 ·subst h2
  have e : (wrap64 (8 * 2)) = 16 := by unfold wrap64; omega
  rw [if_neg (by decide), if_pos rfl, e, if_pos (by decide), Pl.fits_2]
  simp only [shr, IntKind.bits, Option.some.injEq]
  rw [Bool.eq_iff_iff]
  simp
  omega
 by_cases h4 : s = 4
 ·subst h4
  have e : (wrap64 (8 * 4)) = 32 := by unfold wrap64; omega
  rw [if_neg (by decide), if_neg (by decide), if_pos rfl, e, if_pos (by decide), Pl.fits_4]
  simp only [shr, IntKind.bits, Option.some.injEq]
  rw [Bool.eq_iff_iff]
  simp
  omega
 rw [if_neg h1, if_neg h2, if_neg h4]
 by_cases h8 : s = 8
 ·subst h8
  rw [Pl.fits_8 (by omega)]
  rfl
 ·rw [Pl.fits_no (by rw [← Bool.not_eq_true, Pl.okS_iff]; omega)]
  simpa using h8
theorem le_Put.tells {l0 : List Int} {a1 a2 : Int} {r : List Int × Int} (h : le_Put.f l0 a1 a2 = some r) : le_Put_p.f 10 l0 a1 a2 = some r := by
 unfold le_Put.f at h
 split at h
 case isFalse => cases h
 rename_i hh
 obtain ⟨h0, h1, h2⟩ := hh
 obtain rfl := Option.some.inj h
 obtain ⟨n, rfl⟩ := Int.eq_ofNat_of_zero_le h0
 unfold le_Put_p.f
 rw [le_may.tells n (by omega) a2, Option.bind_some]
 unfold Pl.putS
 by_cases hf : Pl.fits n a2 = true
 ·have hs : a2 = 1 ∨ a2 = 2 ∨ a2 = 4 ∨ a2 = 8 := by
   unfold Pl.fits at hf
   rw [Bool.and_eq_true, Pl.okS_iff] at hf
   exact hf.1
  rw [if_pos hf, if_pos hf]
  unfold bytes_Clone.f
  rw [if_pos (by omega), Option.bind_some, Int.toNat_natCast]
  exact le_Put.loop a2.toNat 10 n l0 a2 0 (by omega) (by omega) (by omega) (by omega) (by omega)
 ·rw [if_neg hf, if_neg hf]
theorem le_Put.calls (A0 : Option Addr) (c0 : Nat) (l0 : List Int) (a1 : Int) (a2 : Int) (r1 : List Int) (r2 : Int) (w : World) (hr0 : Kd.C (Kd.int .u8) w A0 l0.length l0) (hc0 : l0.length ≤ c0) (h : le_Put.f l0 a1 a2 = some (r1, r2)) :
  Calls Try.prog 63 #[.slice A0 l0.length c0, .int .u64 a1, .int .i64 a2] w fun e w' => ∃ v0_ : Value, e = .returned (.tuple #[v0_, .int .i64 r2]) ∧ Kd.R (Kd.int .u8) 5 w' w.heap.size (fun _ => True) v0_ r1 ∧ Below w.heap.size w w' :=
 le_Put_p.calls 10 A0 c0 l0 a1 a2 r1 r2 w hr0 hc0 (le_Put.tells h)
end Go.Proofs.Ytcemlfkboifncaa.PA
namespace Go.Proofs.Ytcemlfkboifncaa.PA
open Go.RowKit Go.Proofs.YtcemlfkboifncaaW.PrintWords Go.Proofs.YtcemlfkboifncaaW.PrintLast Go.Proofs.YtcemlfkboifncaaW.PrintMore
attribute [local go_sem] max2_int min2_int max_two min_two max_three min_three max_four min_four
end Go.Proofs.Ytcemlfkboifncaa.PA
namespace Go.Proofs.Ytcemlfkboifncaa.PA
open Go.RowKit Go.Proofs.YtcemlfkboifncaaW.PrintWords Go.Proofs.YtcemlfkboifncaaW.PrintLast Go.Proofs.YtcemlfkboifncaaW.PrintMore
attribute [local go_sem] max2_int min2_int max_two min_two max_three min_three max_four min_four
set_option linter.unusedVariables false
set_option linter.unusedSimpArgs false
theorem stringslite_IndexByte.goes (s : ByteArray) (c : Int) (w : World) :
  Calls Try.prog 82 #[.string s, .int .u8 c] w fun e w' => e = .returned (.int .i64 (firstIdx s c.toNat.toUInt8)) ∧ Drawn0 w w' := by
 have hx : ∀ w : World, (callFunc 83 #[.string s, .int .u8 c]).run Try.prog w = .ok (.value (.int .i64 (firstIdx s c.toNat.toUInt8))) w := fun w => by
  rw [run_callFunc_indexByte Try.func83 (by kernel_rfl) (by kernel_rfl) (by kernel_rfl) (by kernel_rfl), run_indexByte_string]
  rfl
 go_enter Try.func82, Try.ntmps82
 go_wp2
 go_ret
 exact ⟨rfl, Drawn0.refl _⟩
theorem strings_IndexByte.goes (s : ByteArray) (c : Int) (w : World) :
  Calls Try.prog 77 #[.string s, .int .u8 c] w fun e w' => e = .returned (.int .i64 (firstIdx s c.toNat.toUInt8)) ∧ Drawn0 w w' := by
 go_enter Try.func77, Try.ntmps77
 go_wp2_with (first | (go_at_call 82; refine (stringslite_IndexByte.goes s c _).mono ?_; rintro e w' ⟨rfl, ⟨nd, rfl⟩⟩))
 go_ret
 exact ⟨rfl, ⟨nd, rfl⟩⟩
def utf8_ValidRune.j0 : Nat → Int → Bool → Option (Bool)
 | 0, _, _ => none
 | k + 1, x0, x3 => if x3 = true then (some true) else (if 57343 < x0 then (if x0 ≤ 1114111 then (some true) else (some false)) else (some false))
def utf8_ValidRune.f (k : Nat) (a0 : Int) : Option (Bool) := if 0 ≤ a0 then (utf8_ValidRune.j0 k a0 (decide (a0 < 55296))) else (utf8_ValidRune.j0 k a0 false)
set_option maxHeartbeats 8000000 in
set_option maxRecDepth 100000 in
theorem utf8_ValidRune.calls (k : Nat) (a0 : Int) (r : Bool) (w : World) (h : utf8_ValidRune.f k a0 = some r) :
  Calls Try.prog 78 #[.int .i32 a0] w fun e w' => e = .returned (.bool r) ∧ Drawn0 w w' := by
 have H : (if 0 ≤ a0 then (utf8_ValidRune.j0 k a0 (decide (a0 < 55296))) else (utf8_ValidRune.j0 k a0 false)) = some r := h
 clear h
 have HC2 := Aside0.mk H
 clear H
 go_enter Try.func78, Try.ntmps78
 go_upto_region 1 with (fail)
 go_cut [3] (fun v3 wc => ∃ (kq : Nat) (x3_1 : Bool), v3 = .bool x3_1 ∧ Aside0 (utf8_ValidRune.j0 kq a0 x3_1 = some r) ∧ Aside0 (kq ≤ k) ∧ Drawn0 w wc)
 case first =>
  have H := HC2.out
  clear HC2
  by_cases c3 : 0 ≤ a0
  ·rw [if_pos c3] at H
   have c3b0 : decide (0 ≤ a0) = true := decide_eq_true c3
   clear c3
   (first | rw [c3b0] | (simp only [i64_w, i32_w]; rw [c3b0]) | skip)
   have H' := Aside0.mk H
   clear H
   go_wp2
   go_meet
   case rel => exact ⟨_, (decide (a0 < 55296)), (by first | rfl | (simp; done) | (simp [*]; done)), H', ⟨by first | omega | exact Nat.le_refl _⟩, by repeat (first | exact Drawn0.refl _ | apply Drawn0.step)⟩
  ·rw [if_neg c3] at H
   have c3b0 : decide (0 ≤ a0) = false := decide_eq_false c3
   clear c3
   (first | rw [c3b0] | (simp only [i64_w, i32_w]; rw [c3b0]) | skip)
   have H' := Aside0.mk H
   clear H
   go_wp2
   go_meet
   case rel => exact ⟨_, (false), (by first | rfl | (simp; done) | (simp [*]; done)), H', ⟨by first | omega | exact Nat.le_refl _⟩, by repeat (first | exact Drawn0.refl _ | apply Drawn0.step)⟩
 case rest =>
  clear HC2
  try clear p2
  try clear c3
  try clear c3b0
  obtain ⟨kq, x3_1, rfl, HA, HJ1, ⟨mc1, rfl⟩⟩ := hcut
  cases kq with
  | zero => exact absurd HA.out (by simp [utf8_ValidRune.j0])
  | succ kj1 =>
   have H := HA.out
   clear HA
   simp only [utf8_ValidRune.j0] at H
   by_cases c4 : x3_1 = true
   ·subst c4
    have H1 : (some true) = some r := by rw [if_pos rfl] at H <;> exact H
    clear H
    have H := H1
    clear H1
    obtain rfl := Option.some.inj H
    go_wp2
    go_ret
    exact ⟨by first | rfl | (simp; done) | (simp [*]; done), by repeat (first | exact Drawn0.refl _ | apply Drawn0.step)⟩
   ·replace c4 := Bool.eq_false_iff.mpr c4
    subst c4
    have H1 : (if 57343 < a0 then (if a0 ≤ 1114111 then (some true) else (some false)) else (some false)) = some r := by rw [if_neg (show ¬ (false = true) by decide)] at H <;> exact H
    clear H
    have H := H1
    clear H1
    by_cases c5 : 57343 < a0
    ·rw [if_pos c5] at H
     have c5b0 : decide (57343 < a0) = true := decide_eq_true c5
     clear c5
     by_cases c6 : a0 ≤ 1114111
     ·rw [if_pos c6] at H
      have c6b0 : decide (a0 ≤ 1114111) = true := decide_eq_true c6
      clear c6
      obtain rfl := Option.some.inj H
      go_wp2
      go_ret
      exact ⟨by first | rfl | (simp; done) | (simp [*]; done), by repeat (first | exact Drawn0.refl _ | apply Drawn0.step)⟩
     ·rw [if_neg c6] at H
      have c6b0 : decide (a0 ≤ 1114111) = false := decide_eq_false c6
      clear c6
      obtain rfl := Option.some.inj H
      go_wp2
      go_ret
      exact ⟨by first | rfl | (simp; done) | (simp [*]; done), by repeat (first | exact Drawn0.refl _ | apply Drawn0.step)⟩
    ·rw [if_neg c5] at H
     have c5b0 : decide (57343 < a0) = false := decide_eq_false c5
     clear c5
     obtain rfl := Option.some.inj H
     go_wp2
     go_ret
     exact ⟨by first | rfl | (simp; done) | (simp [*]; done), by repeat (first | exact Drawn0.refl _ | apply Drawn0.step)⟩
end Go.Proofs.Ytcemlfkboifncaa.PA
namespace Go.Proofs.Ytcemlfkboifncaa.PA
open Go.RowKit Go.Proofs.YtcemlfkboifncaaW.PrintWords Go.Proofs.YtcemlfkboifncaaW.PrintLast Go.Proofs.YtcemlfkboifncaaW.PrintMore
attribute [local go_sem] max2_int min2_int max_two min_two max_three min_three max_four min_four
end Go.Proofs.Ytcemlfkboifncaa.PA
namespace Go.Proofs.Ytcemlfkboifncaa.PA
open Go.RowKit Go.Proofs.YtcemlfkboifncaaW.PrintWords Go.Proofs.YtcemlfkboifncaaW.PrintLast Go.Proofs.YtcemlfkboifncaaW.PrintMore
attribute [local go_sem] max2_int min2_int max_two min_two max_three min_three max_four min_four
set_option linter.unusedVariables false
set_option linter.unusedSimpArgs false
set_option maxRecDepth 2000000 in
theorem strings_IndexRune.low (s : ByteArray) (r : Int) (w : World) (h0 : 0 ≤ r) (h1 : r < 128) :
  Calls Try.prog 73 #[.string s, .int .i32 r] w fun e w' => e = .returned (.int .i64 (firstIdx s r.toNat.toUInt8)) ∧ Below w.heap.size w w' := by
 have hr : r % 256 = r := by omega
 go_enter Try.func73, Try.ntmps73
 go_wp2_with (first | (go_at_call 77; refine (strings_IndexByte.goes s r _).mono ?_; rintro e w' ⟨rfl, ⟨nd, rfl⟩⟩))
 go_ret
 exact ⟨rfl, pw_below_drewN (Below.refl _ _) nd⟩
set_option maxHeartbeats 8000000 in
set_option maxRecDepth 2000000 in
theorem strings_IndexRune.none' (s : ByteArray) (w : World) (hs : ∀ i (h : i < s.size), (s[i]'h).toNat < 128) :
  Calls Try.prog 73 #[.string s, .int .i32 65533] w fun e w' => e = .returned (.int .i64 (-1)) ∧ Below w.heap.size w w' := by
 obtain ⟨B, hB⟩ : ∃ B, B = w.heap.size := ⟨_, rfl⟩
 have HBN := Aside0.mk hB
 clear hB
 have hk0 : Aside0 ((w.iter s 0).heap[B]? = some (.stringIter s 0)) := ⟨by rw [HBN.out]; exact World.iter_heap w s 0⟩
 have hb0 : Aside0 (Below w.heap.size w (w.iter s 0)) := ⟨(Below.refl _ w).alloc (Nat.le_refl _) _⟩
 go_enter Try.func73, Try.ntmps73
 go_wp2
 rw [← HBN.out]
 generalize w.iter s 0 = w0 at hk0 hb0 ⊢
 go_loopw [] (fun wr => ∃ pos : Nat, pos ≤ s.size ∧ Aside0 (wr.heap[B]? = some (.stringIter s pos)) ∧ Aside0 (Below w.heap.size w wr)) (fun wr => s.size - wr.iterPos B)
 case atStart => exact ⟨0, Nat.zero_le _, hk0, hb0⟩
 case round =>
  obtain ⟨pos, hps, hk, hnx⟩ := hrel
  clear hk0 hb0
  by_cases hp : pos < s.size
  ·have hnext : ∀ ty, (Instr.next (.pointer (some ⟨B, 0, none⟩)) true ty).run Try.prog wr = _ := fun ty => Lib.run_next_ascii_at wr B s pos ty hk.out hp (hs pos hp)
   have hk1 := Aside0.mk (Lib.iterAt_heap wr B s pos (pos + 1) hk.out)
   have hn1 := Aside0.mk (Lib.below_iterAt (k := B) hnx.out (by rw [HBN.out]; exact Nat.le_refl _) s (pos + 1))
   have hmu : Aside0 (wr.iterPos B = pos) := ⟨by simp [World.iterPos, hk.out]⟩
   have hmu2 : Aside0 ((wr.iterAt B s (pos + 1)).iterPos B = pos + 1) := ⟨by simp [World.iterPos, hk1.out]⟩
   have hb := hs pos hp
   obtain ⟨x, hx⟩ : ∃ x, x = (s[pos]'hp).toNat := ⟨_, rfl⟩
   rw [← hx] at hnext hb
   have hne : ((x : Int) == 65533) = false := by simp; omega
   clear hx
   generalize wr.iterAt B s (pos + 1) = W1 at hnext hk1 hn1 hmu2
   go_wp2
   go_roundw
   case rel => exact ⟨pos + 1, by omega, hk1, hn1⟩
   case measure => rw [hmu.out, hmu2.out]; omega
  ·have hnext : ∀ ty, (Instr.next (.pointer (some ⟨B, 0, none⟩)) true ty).run Try.prog wr = _ := fun ty => Lib.run_next_end_at wr B s pos ty hk.out hp
   go_wp2
   go_ret
   exact ⟨rfl, hnx.out⟩
set_option maxHeartbeats 8000000 in
set_option maxRecDepth 2000000 in
theorem strings_IndexRune.high (s : ByteArray) (r : Nat) (w : World) (hs : ∀ b ∈ s.data.toList, b.toNat < 128) (h4 : 4 ≤ s.size) (h5 : s.size < 2147483648) (h1 : 128 ≤ r) (h2 : r ≤ 2147483647) (h3 : r ≠ 65533) :
  Calls Try.prog 73 #[.string s, .int .i32 r] w fun e w' => e = .returned (.int .i64 (-1)) ∧ Below w.heap.size w w' := by
 have d1 : decide ((r : Int) < 128) = false := decide_eq_false (by omega)
 have d2 : ((r : Int) == 65533) = false := by simp; omega
 have HV : ∀ w, Calls Try.prog 78 #[.int .i32 (r : Int)] w fun e w' => e = .returned (.bool (Utf8.valid r)) ∧ Drawn0 w w' := fun w => utf8_ValidRune.calls 1 (r : Int) _ w (by
  rw [validRune_eq]
  unfold utf8_ValidRune.f validRune
  rw [if_pos (by omega)]
  have hj : ∀ b, utf8_ValidRune.j0 1 (r : Int) b = if b = true then some true else (if 57343 < (r : Int) then (if (r : Int) ≤ 1114111 then some true else some false) else some false) := fun b => rfl
  rw [hj]
  by_cases ha : (r : Int) < 55296
  ·rw [decide_eq_true ha, if_pos rfl, decide_eq_true (Or.inl ⟨by omega, ha⟩)]
  ·rw [decide_eq_false ha, if_neg (by simp)]
   by_cases hb : (57343 : Int) < (r : Int)
   ·rw [if_pos hb]
    by_cases hc : (r : Int) ≤ 1114111
    ·rw [if_pos hc, decide_eq_true (Or.inr ⟨hb, hc⟩)]
    ·rw [if_neg hc, decide_eq_false (by omega)]
   ·rw [if_neg hb, decide_eq_false (by omega)])
 have HV' := Aside0.mk HV
 clear HV
 have HB := Aside0.mk (Below.refl w.heap.size w)
 cases hv : Utf8.valid (r : Int) with
 | false =>
  rw [hv] at HV'
  go_enter Try.func73, Try.ntmps73
  go_wp2_with (first | (go_at_call 78; refine (HV'.out _).mono ?_; rintro e w' ⟨rfl, ⟨nd, rfl⟩⟩))
  go_ret
  exact ⟨rfl, pw_below_drewN (Below.refl _ _) nd⟩
 | true =>
  rw [hv] at HV'
  obtain ⟨e2, e4, elast⟩ := encode_facts (r : Int) hv (by omega)
  obtain ⟨t, ht⟩ : ∃ t, t = Utf8.encode (r : Int) := ⟨_, rfl⟩
  have hcv : ∀ w : World, (convert 21 9 (.int .i32 (r : Int))).run Try.prog w = .ok (.string t) w := fun w => by rw [ht]; exact run_convert_int_string w 21 9 .i32 (r : Int) rfl rfl
  rw [← ht] at e2 e4 elast
  clear ht
  obtain ⟨n, hn⟩ : ∃ n, n = t.size - 1 := ⟨_, rfl⟩
  have hnt : n < t.size := by omega
  have hl : Aside0 (128 ≤ (t[n]'hnt).toNat) := ⟨by have := elast (by omega); simp only [← hn] at this; exact this⟩
  have hn1 : (t.size : Int) - 1 = (n : Int) := by omega
  have hns : n < s.size := by omega
  have hne : Aside0 ((s[n]'hns).toNat < 128) := ⟨hs _ (by
   have : s[n]'hns = s.data.toList[n]'(by simpa using hns) := by cases s; rfl
   rw [this]; exact List.getElem_mem _)⟩
  obtain ⟨m, hm⟩ : ∃ m, m = n + 1 := ⟨_, rfl⟩
  have hw : wrap64 ((n : Int) + 1) = (m : Int) := by rw [hm]; unfold wrap64; omega
  have k1 := eq_true (show m ≤ s.size from by omega)
  have k2 := eq_true (show (m : Int) ≤ (s.size : Int) from by omega)
  have HC : ∀ w : World, Calls Try.prog 77 #[.string (s.extract m s.size), .int .u8 ((t[n]'hnt).toNat : Int)] w fun e w' => e = .returned (.int .i64 (-1)) ∧ Drawn0 w w' := fun w => by
   have h := strings_IndexByte.goes (s.extract m s.size) ((t[n]'hnt).toNat : Int) w
   rw [show ((t[n]'hnt).toNat : Int).toNat.toUInt8 = t[n]'hnt from by simp, firstIdx_ascii s m s.size _ hs hl.out] at h
   exact h
  have HC' := Aside0.mk HC
  clear hn elast hm HC
  go_enter Try.func73, Try.ntmps73
  go_wp2_with (first | (go_at_call 78; refine (HV'.out _).mono ?_; rintro e w' ⟨rfl, ⟨nd, rfl⟩⟩))
  have HB' := Aside0.mk (pw_below_drewN HB.out nd)
  clear HB
  generalize w.drewN nd = w1 at HB' ⊢
  refine Arr.wp_scope_once 1 (fun _ _ => False) (fun _ _ => 0) rfl (fun _ => ?_) (fun _ _ h => h.elim)
  go_wp2
  go_loopw [9] (fun i wr => i = .int .i64 (n : Int) ∧ Aside0 (Below w.heap.size w wr)) (fun _ _ => 0)
  case atStart => exact ⟨rfl, HB'⟩
  case round =>
   clear HB'
   obtain ⟨rfl, HB⟩ := hrel
   have d3 : decide ((n : Int) < (s.size : Int)) = true := decide_eq_true (by omega)
   have d4 : decide (n < s.size) = true := decide_eq_true (by omega)
   go_wp2
   refine Arr.wp_scope_once 0 (fun _ _ => False) (fun _ _ => 0) rfl (fun _ => ?_) (fun _ _ h => h.elim)
   go_wp2
   have HB' := Aside0.mk (below_drew HB.out); clear HB; have HB := HB'; clear HB'
   refine start_ (n := 7) (S := fun w' => True) (ds := []) #[false, false, false, false, false, false, false] (by kernel_rfl) rfl rfl trivial (fun hHeld => ?_)
   generalize wr.drew = wd901 at HB hHeld ⊢
   refine pure_ (i := 0) (N := some 27) (v := ?_) (a' := ?_) #[true, false, false, false, false, false, false] rfl rfl (by kernel_rfl) (fun _ _ _ h => h) (Or.inl ⟨by rfl, ?_⟩) ?_ ?_
   rotate_left
   ·intro w'
    go_simp
    with_reducible rfl
   rotate_left
   ·simp only [Act.put, Kx.sb, Kx.sz, Kx.ss, i64_w, i32_w]
    rfl
   refine pure_ (i := 1) (N := some 28) (v := ?_) (a' := ?_) #[true, true, false, false, false, false, false] rfl rfl (by kernel_rfl) (fun _ _ _ h => h) (Or.inl ⟨by rfl, ?_⟩) ?_ ?_
   rotate_left
   ·intro w'
    go_simp
    with_reducible rfl
   rotate_left
   ·simp only [Act.put, Kx.sb, Kx.sz, Kx.ss, i64_w, i32_w]
    rfl
   refine pure_ (i := 3) (N := some 30) (v := ?_) (a' := ?_) #[true, true, false, true, false, false, false] rfl rfl (by kernel_rfl) (fun _ _ _ h => h) (Or.inl ⟨by rfl, ?_⟩) ?_ ?_
   rotate_left
   ·intro w'
    go_simp
    with_reducible rfl
   rotate_left
   ·simp only [Act.put, Kx.sb, Kx.sz, Kx.ss, i64_w, i32_w]
    rfl
   refine pure_ (i := 4) (N := some 31) (v := ?_) (a' := ?_) #[true, true, false, true, true, false, false] rfl rfl (by kernel_rfl) (fun _ _ _ h => h) (Or.inl ⟨by rfl, ?_⟩) ?_ ?_
   rotate_left
   ·intro w'
    go_simp
    with_reducible rfl
   rotate_left
   ·simp only [Act.put, Kx.sb, Kx.sz, Kx.ss, i64_w, i32_w]
    rfl
   refine take_ (i := 2) (N := some 29) (v := ?_) (a' := ?_) #[true, true, true, true, true, false, false] rfl rfl (by kernel_rfl) (fun _ _ _ h => h) (Or.inl ⟨by rfl, ?_⟩) hHeld ?_ ?_
   rotate_left
   ·rintro w' _
    go_simp
    with_reducible rfl
   rotate_left
   ·simp only [Act.put, Kx.sb, Kx.sz, Kx.ss, i64_w, i32_w]
    rfl
   refine take_ (i := 5) (N := some 32) (v := ?_) (a' := ?_) #[true, true, true, true, true, true, false] rfl rfl (by kernel_rfl) (fun _ _ _ h => h) (Or.inl ⟨by rfl, ?_⟩) hHeld ?_ ?_
   rotate_left
   ·rintro w' _
    go_simp
    with_reducible rfl
   rotate_left
   ·simp only [Act.put, Kx.sb, Kx.sz, Kx.ss, i64_w, i32_w]
    rfl
   refine pure_ (i := 6) (N := some 33) (v := ?_) (a' := ?_) #[true, true, true, true, true, true, true] rfl rfl (by kernel_rfl) (fun _ _ _ h => h) (Or.inl ⟨by rfl, ?_⟩) ?_ ?_
   rotate_left
   ·intro w'
    go_simp
    with_reducible rfl
   rotate_left
   ·simp only [Act.put, Kx.sb, Kx.sz, Kx.ss, i64_w, i32_w]
    rfl
   refine done_ (by kernel_rfl) ?_
   have d5 : (((s[n]'hns).toNat : Int) != ((t[n]'hnt).toNat : Int)) = true := by have := hne.out; have := hl.out; simp; omega
   go_wp2
   have HB' := Aside0.mk (below_drew HB.out); clear HB; have HB := HB'; clear HB'
   refine start_ (n := 9) (S := fun w' => True) (ds := []) #[false, false, false, false, false, false, false, false, false] (by kernel_rfl) rfl rfl trivial (fun hHeld => ?_)
   generalize wd901.drew = wd911 at HB hHeld ⊢
   refine pure_ (i := 0) (N := some 34) (v := ?_) (a' := ?_) #[true, false, false, false, false, false, false, false, false] rfl rfl (by kernel_rfl) (fun _ _ _ h => h) (Or.inl ⟨by rfl, ?_⟩) ?_ ?_
   rotate_left
   ·intro w'
    go_simp
    with_reducible rfl
   rotate_left
   ·simp only [Act.put, Kx.sb, Kx.sz, Kx.ss, i64_w, i32_w]
    rfl
   refine pure_ (i := 1) (N := some 35) (v := ?_) (a' := ?_) #[true, true, false, false, false, false, false, false, false] rfl rfl (by kernel_rfl) (fun _ _ _ h => h) (Or.inl ⟨by rfl, ?_⟩) ?_ ?_
   rotate_left
   ·intro w'
    go_simp
    with_reducible rfl
   rotate_left
   ·simp only [Act.put, Kx.sb, Kx.sz, Kx.ss, i64_w, i32_w]
    rfl
   refine pure_ (i := 2) (N := some 36) (v := ?_) (a' := ?_) #[true, true, true, false, false, false, false, false, false] rfl rfl (by kernel_rfl) (fun _ _ _ h => h) (Or.inl ⟨by rfl, ?_⟩) ?_ ?_
   rotate_left
   ·intro w'
    go_simp
    with_reducible rfl
   rotate_left
   ·simp only [Act.put, Kx.sb, Kx.sz, Kx.ss, i64_w, i32_w]
    rfl
   refine pure_ (i := 3) (N := some 37) (v := ?_) (a' := ?_) #[true, true, true, true, false, false, false, false, false] rfl rfl (by kernel_rfl) (fun _ _ _ h => h) (Or.inl ⟨by rfl, ?_⟩) ?_ ?_
   rotate_left
   ·intro w'
    go_simp
    with_reducible rfl
   rotate_left
   ·simp only [Act.put, Kx.sb, Kx.sz, Kx.ss, i64_w, i32_w]
    rfl
   refine pure_ (i := 4) (N := some 38) (v := ?_) (a' := ?_) #[true, true, true, true, true, false, false, false, false] rfl rfl (by kernel_rfl) (fun _ _ _ h => h) (Or.inl ⟨by rfl, ?_⟩) ?_ ?_
   rotate_left
   ·intro w'
    go_simp
    with_reducible rfl
   rotate_left
   ·simp only [Act.put, Kx.sb, Kx.sz, Kx.ss, i64_w, i32_w]
    rfl
   refine pure_ (i := 5) (N := some 39) (v := ?_) (a' := ?_) #[true, true, true, true, true, true, false, false, false] rfl rfl (by kernel_rfl) (fun _ _ _ h => h) (Or.inl ⟨by rfl, ?_⟩) ?_ ?_
   rotate_left
   ·intro w'
    go_simp
    with_reducible rfl
   rotate_left
   ·simp only [Act.put, Kx.sb, Kx.sz, Kx.ss, i64_w, i32_w]
    rfl
   refine take_ (i := 6) (N := some 40) (v := ?_) (a' := ?_) #[true, true, true, true, true, true, true, false, false] rfl rfl (by kernel_rfl) (fun _ _ _ h => h) (Or.inl ⟨by rfl, ?_⟩) hHeld ?_ ?_
   rotate_left
   ·rintro w' _
    go_simp
    with_reducible rfl
   rotate_left
   ·simp only [Act.put, Kx.sb, Kx.sz, Kx.ss, i64_w, i32_w]
    rfl
   refine one_ (i := 7) (N := some 41) #[true, true, true, true, true, true, true, true, false] rfl rfl (by kernel_rfl) (by decide) (fun K hK => ?_)
   refine goes_ Try.func77 (by kernel_rfl) rfl #[.string (s.extract m s.size), .int .u8 ((t[n]'hnt).toNat : Int)] (by rfl) rfl rfl (by simp only [List.map_toArray, List.map_cons, List.map_nil]; rfl) ?_
   refine (HC'.out _).mono ?_
   rintro e w91107 ⟨rfl, ⟨nd, rfl⟩⟩
   refine ⟨_, rfl, ?_⟩
   have HB' := Aside0.mk (pw_below_drewN HB.out nd); clear HB; have HB := HB'; clear HB'
   refine hK.out _ _ trivial (fun hHeld => ?_)
   clear hK K
   refine norm_ (a' := ?_) ?_ ?_
   rotate_left
   ·show Act.put _ (some 41) _ = _
    simp only [Act.put, Kx.sb, Kx.sz, Kx.ss, i64_w, i32_w]
    rfl
   refine pure_ (i := 8) (N := some 11) (v := ?_) (a' := ?_) #[true, true, true, true, true, true, true, true, true] rfl rfl (by kernel_rfl) (fun _ _ _ h => h) (Or.inl ⟨by rfl, ?_⟩) ?_ ?_
   rotate_left
   ·intro w'
    go_simp
    with_reducible rfl
   rotate_left
   ·simp only [Act.put, Kx.sb, Kx.sz, Kx.ss, i64_w, i32_w]
    rfl
   refine done_ (by kernel_rfl) ?_
   go_wp2
   simp only [Exit.jump]
   (try go_wp2)
   (try simp only [Exit.jump])
   go_ret
   exact ⟨rfl, HB.out⟩
def le_size.f (a0 : Int) : Option Int := if 0 ≤ a0 ∧ a0 ≤ 2147483647 then some (Pl.letS a0) else none
theorem le_size.place (a0 : Int) (h0 : 0 ≤ a0) (h1 : a0 ≤ 2147483647) : ∃ i : Int, ((i = 0 ∧ Pl.letS a0 = 1) ∨ (i = 1 ∧ Pl.letS a0 = 2) ∨ (i = 2 ∧ Pl.letS a0 = 4) ∨ (i = 3 ∧ Pl.letS a0 = 8) ∨ (i = -1 ∧ Pl.letS a0 = 0)) ∧
  ∀ w : World, Calls Try.prog 73 #[.string Pl.bhwq, .int .i32 a0] w fun e w' => e = .returned (.int .i64 i) ∧ Below w.heap.size w w' := by
 obtain ⟨r, rfl⟩ := Int.eq_ofNat_of_zero_le h0
 by_cases hl : r < 128
 ·refine ⟨firstIdx Pl.bhwq (r : Int).toNat.toUInt8, ?_, fun w => strings_IndexRune.low Pl.bhwq r w h0 (by omega)⟩
  have h := Pl.bhwq_at ⟨r, hl⟩
  rw [Int.toNat_natCast]
  simp only at h
  rw [h]
  unfold Pl.letS
  by_cases h98 : r = 98
  ·subst h98; exact Or.inl ⟨rfl, rfl⟩
  by_cases h104 : r = 104
  ·subst h104; exact Or.inr (Or.inl ⟨rfl, rfl⟩)
  by_cases h119 : r = 119
  ·subst h119; exact Or.inr (Or.inr (Or.inl ⟨rfl, rfl⟩))
  by_cases h113 : r = 113
  ·subst h113; exact Or.inr (Or.inr (Or.inr (Or.inl ⟨rfl, rfl⟩)))
  rw [if_neg h98, if_neg h104, if_neg h119, if_neg h113, if_neg (by omega), if_neg (by omega), if_neg (by omega), if_neg (by omega)]
  exact Or.inr (Or.inr (Or.inr (Or.inr ⟨rfl, rfl⟩)))
 ·refine ⟨-1, Or.inr (Or.inr (Or.inr (Or.inr ⟨rfl, ?_⟩))), fun w => ?_⟩
  ·unfold Pl.letS
   rw [if_neg (by omega), if_neg (by omega), if_neg (by omega), if_neg (by omega)]
  ·by_cases he : r = 65533
   ·subst he
    exact strings_IndexRune.none' Pl.bhwq w Pl.bhwq_get
   ·exact strings_IndexRune.high Pl.bhwq r w Pl.bhwq_ascii (by decide) (by decide) (by omega) (by omega) he
set_option maxHeartbeats 2000000 in
theorem le_size.calls (a0 : Int) (r : Int) (w : World) (h : le_size.f a0 = some r) :
  Calls Try.prog 64 #[.int .i32 a0] w fun e w' => e = .returned (.int .i64 r) ∧ Below w.heap.size w w' := by
 unfold le_size.f at h
 split at h
 case isFalse => cases h
 rename_i hh
 obtain ⟨h0, h1⟩ := hh
 obtain rfl := Option.some.inj h
 clear h
 obtain ⟨i, hi, HC⟩ := le_size.place a0 h0 h1
 obtain ⟨z, hz⟩ : ∃ z, z = Pl.letS a0 := ⟨_, rfl⟩
 rw [← hz] at hi ⊢
 clear hz
 unfold Pl.bhwq at HC
 have HC' := Aside0.mk HC
 clear HC h0 h1
 rcases hi with ⟨rfl, rfl⟩ | ⟨rfl, rfl⟩ | ⟨rfl, rfl⟩ | ⟨rfl, rfl⟩ | ⟨rfl, rfl⟩ <;>
 ·go_enter Try.func64, Try.ntmps64
  go_wp2_with (first | (go_at_call 73; refine (HC'.out _).mono ?_; rintro e w' ⟨rfl, hb⟩; have HB := Aside0.mk hb; clear hb))
  go_ret
  exact ⟨rfl, HB.out⟩
end Go.Proofs.Ytcemlfkboifncaa.PA
