/- Words and walks that this claim names, of those that the kit's print and programs of this workplace have printed. -/
import Derived.Test.YtohkmmbmfhficaaZTPTx11
import Derived.Test.YtohkmmbmfhficaaZTPTx71
namespace Go.Proofs.Ytohkmmbmfhficaa.PT
open Go.RowKit Go.Proofs.YtohkmmbmfhficaaW.PrintWords Go.Proofs.YtohkmmbmfhficaaW.PrintLast Go.Proofs.YtohkmmbmfhficaaW.PrintMore
attribute [local go_sem] max2_int min2_int max_two min_two max_three min_three max_four min_four
set_option linter.unusedVariables false
set_option linter.unusedSimpArgs false
mutual
def waggonerref16_may_p.j0 : Nat → Int → List Int → Bool → Int → Int → Int → Int → Int → Int → Option (Int × Int × Int × List Int × Int × Int × Int)
 | 0, _, _, _, _, _, _, _, _, _ => none
 | k + 1, x0, x1, x12, x357000, x357001, x357002, x357004, x357005, x357006 => if x12 = true then ((waggonerref01_Unpack.f (⟨#[98, 119, 119]⟩ : ByteArray) x1).bind fun bt357 => (if 0 < (bt357.1.length : Int) then (if 1 < (bt357.1.length : Int) then (if 2 < (bt357.1.length : Int) then (some (x357000, x357001, x357002, ([] : List Int), wrap64 (rd bt357.1 0), wrap64 (rd bt357.1 1), wrap64 (rd bt357.1 2))) else (none)) else (none)) else (none))) else (if x0 = 5 then (waggonerref16_may_p.j1 k x1 ((x1.length : Int) == 6) x357000 x357001 x357002 x357004 x357005 x357006) else (waggonerref16_may_p.j1 k x1 false x357000 x357001 x357002 x357004 x357005 x357006))
def waggonerref16_may_p.j1 : Nat → List Int → Bool → Int → Int → Int → Int → Int → Int → Option (Int × Int × Int × List Int × Int × Int × Int)
 | 0, _, _, _, _, _, _, _, _ => none
 | k + 1, x1, x40, x357000, x357001, x357002, x357004, x357005, x357006 => if x40 = true then ((waggonerref01_Unpack.f (⟨#[104, 119]⟩ : ByteArray) x1).bind fun bt364 => (if 0 < (bt364.1.length : Int) then (if 1 < (bt364.1.length : Int) then (some (x357000, x357001, x357002, ([] : List Int), wrap64 (rd bt364.1 0), wrap64 (rd bt364.1 1), x357006)) else (none)) else (none))) else (if (x1.length : Int) ≥ 2 then (if 0 < (x1.length : Int) then (if 1 < (x1.length : Int) then (if 2 ≤ (x1.length : Int) then (if ([] : List Int).length + (x1.drop 2).length < 140737488355328 then (some (x357000, wrap64 (rd x1 0), wrap64 (rd x1 1), (([] : List Int) ++ (x1.drop 2)), x357004, x357005, x357006)) else (none)) else (none)) else (none)) else (none)) else (some (x357000, x357001, x357002, ([] : List Int), x357004, x357005, x357006)))
end
def waggonerref16_may_p.f (k : Nat) (a0 : Int) (l1 : List Int) : Option (Int × Int × Int × List Int × Int × Int × Int) := if a0 = 1 then (waggonerref16_may_p.j0 k a0 l1 ((l1.length : Int) == 9) a0 0 0 0 0 0) else (waggonerref16_may_p.j0 k a0 l1 false a0 0 0 0 0 0)
set_option maxHeartbeats 8000000 in
set_option maxRecDepth 100000 in
theorem waggonerref16_may_p.calls (k : Nat) (a0 : Int) (A1 : Option Addr) (c1 : Nat) (l1 : List Int) (r1 : Int) (r2 : Int) (r3 : Int) (r4 : List Int) (r5 : Int) (r6 : Int) (r7 : Int) (w : World) (hr1 : Kd.C (Kd.int .u8) w A1 l1.length l1) (hc1 : l1.length ≤ c1) (h : waggonerref16_may_p.f k a0 l1 = some (r1, r2, r3, r4, r5, r6, r7)) :
  Calls Try.prog 48 #[.int .i64 a0, .slice A1 l1.length c1] w fun e w' => ∃ v3_ : Value, e = .returned (.agg #[.int .i64 r1, .int .i64 r2, .int .i64 r3, v3_, .int .i64 r5, .int .i64 r6, .int .i64 r7]) ∧ Kd.R (Kd.int .u8) 5 w' w.heap.size (fun _ => True) v3_ r4 ∧ Below w.heap.size w w' := by
 have hu38 := Try.underlying38
 have HR1 := Aside0.mk hr1
 have HC1 := Aside0.mk hc1
 clear hr1 hc1
 have HB := Aside0.mk (Below.refl w.heap.size w)
 have H : (if a0 = 1 then (waggonerref16_may_p.j0 k a0 l1 ((l1.length : Int) == 9) a0 0 0 0 0 0) else (waggonerref16_may_p.j0 k a0 l1 false a0 0 0 0 0 0)) = some (r1, r2, r3, r4, r5, r6, r7) := h
 clear h
 have HC3 := Aside0.mk H
 clear H
 go_enter Try.func48, Try.ntmps48
 go_upto_region 2 with (first | ((with_reducible refine gate_dst (N := 4) rfl ?_); (try (refine gate_guard (by rfl) ?_; dsimp only)); refine box_event ?hg (N := 4) ?hd (cs := #[.int .i64 0, .int .i64 0, .int .i64 0, .slice none 0 0, .int .i64 0, .int .i64 0, .int .i64 0]) (t := 38) ?hr ?_; (case hd => rfl); (case hg => rfl); (case hr => first | (go_simp; done) | (go_simp; rfl)); intro gb355 hg w4 hbox hb; have n0_ := Aside0.mk (below_step (by repeat (first | (with_reducible first | exact HB.out | apply below_alloc | apply pw_below_drewN | apply below_drew1) | exact HB.out)) hb); have n1_ := Aside0.mk (hbox); have n2_ := Aside0.mk ((by rw [hg]; exact (below_size (by repeat (first | (with_reducible first | exact HB.out | apply below_alloc | apply pw_below_drewN | apply below_drew1) | exact HB.out))) : w.heap.size ≤ gb355)); have n3_ := Aside0.mk ((by rw [hg]; exact (below_size (by repeat (first | (with_reducible first | exact HB.out | apply below_alloc | apply pw_below_drewN | apply below_drew1) | exact HB.out))) : w.heap.size ≤ gb355)); clear HB; have HB := n0_; have BK355 := n1_; have GW355 := n2_; have GE355 := n3_; clear n0_ n1_ n2_ n3_; clear hb hbox hg) | ((with_reducible refine gate_dst (N := 5) rfl ?_); (try (refine gate_guard (by rfl) ?_; dsimp only)); refine box_event ?hg (N := 5) ?hd (cs := #[.int .i64 0, .int .i64 0, .int .i64 0, .slice none 0 0, .int .i64 0, .int .i64 0, .int .i64 0]) (t := 38) ?hr ?_; (case hd => rfl); (case hg => rfl); (case hr => first | (go_simp; done) | (go_simp; rfl)); intro gb356 hg w5 hbox hb; have n0_ := Aside0.mk (blk_below (g := gb355) (o := .cells #[.int .i64 0, .int .i64 0, .int .i64 0, .slice none 0 0, .int .i64 0, .int .i64 0, .int .i64 0] 38 (0, 0)) (by (with_reducible repeat (first | refine blk_drewN ?_ _ | refine blk_drew ?_ | refine blk_alloc ?_ _)); exact BK355.out) hb); have n1_ := Aside0.mk (below_step (by repeat (first | (with_reducible first | exact HB.out | apply below_alloc | apply pw_below_drewN | apply below_drew1 | refine below_set ?_ GE355.out) | exact HB.out)) hb); have n2_ := Aside0.mk (hbox); have n3_ := Aside0.mk ((by rw [hg]; exact (below_size (by repeat (first | (with_reducible first | exact HB.out | apply below_alloc | apply pw_below_drewN | apply below_drew1 | refine below_set ?_ GE355.out) | exact HB.out))) : w.heap.size ≤ gb356)); have n4_ := Aside0.mk ((by rw [hg]; exact (below_size (by repeat (first | (with_reducible first | exact HB.out | apply below_alloc | apply pw_below_drewN | apply below_drew1 | refine below_set ?_ GE355.out) | exact HB.out))) : w.heap.size ≤ gb356)); have n5_ := Aside0.mk ((by rw [hg]; exact Nat.ne_of_lt (blk_lt (g := gb355) (o := .cells #[.int .i64 0, .int .i64 0, .int .i64 0, .slice none 0 0, .int .i64 0, .int .i64 0, .int .i64 0] 38 (0, 0)) (by (with_reducible repeat (first | refine blk_drewN ?_ _ | refine blk_drew ?_ | refine blk_alloc ?_ _)); exact BK355.out)) : gb355 ≠ gb356)); have n6_ := Aside0.mk ((by rw [hg]; exact Nat.ne_of_gt (blk_lt (g := gb355) (o := .cells #[.int .i64 0, .int .i64 0, .int .i64 0, .slice none 0 0, .int .i64 0, .int .i64 0, .int .i64 0] 38 (0, 0)) (by (with_reducible repeat (first | refine blk_drewN ?_ _ | refine blk_drew ?_ | refine blk_alloc ?_ _)); exact BK355.out)) : gb356 ≠ gb355)); clear BK355; clear HB; have BK355 := n0_; have HB := n1_; have BK356 := n2_; have GW356 := n3_; have GE356 := n4_; have NB355_356 := n5_; have NB356_355 := n6_; clear n0_ n1_ n2_ n3_ n4_ n5_ n6_; clear hb hbox hg; have hnb6 := NB356_355.out; have hnc6 := NB355_356.out; have hcz7_0 : w5.cell? ⟨gb356, 0, none⟩ = some (.int .i64 0) := (blk_cell BK356.out 0).trans rfl; have hcz7_1 : w5.cell? ⟨gb356, 1, none⟩ = some (.int .i64 0) := (blk_cell BK356.out 1).trans rfl; have hcz7_2 : w5.cell? ⟨gb356, 2, none⟩ = some (.int .i64 0) := (blk_cell BK356.out 2).trans rfl; have hcz7_3 : w5.cell? ⟨gb356, 3, none⟩ = some (.slice none 0 0) := (blk_cell BK356.out 3).trans rfl; have hcz7_4 : w5.cell? ⟨gb356, 4, none⟩ = some (.int .i64 0) := (blk_cell BK356.out 4).trans rfl; have hcz7_5 : w5.cell? ⟨gb356, 5, none⟩ = some (.int .i64 0) := (blk_cell BK356.out 5).trans rfl; have hcz7_6 : w5.cell? ⟨gb356, 6, none⟩ = some (.int .i64 0) := (blk_cell BK356.out 6).trans rfl; have hfz7_0 := blk_frozen BK356.out 0; have hfz7_1 := blk_frozen BK356.out 1; have hfz7_2 := blk_frozen BK356.out 2; have hfz7_3 := blk_frozen BK356.out 3; have hfz7_4 := blk_frozen BK356.out 4; have hfz7_5 := blk_frozen BK356.out 5; have hfz7_6 := blk_frozen BK356.out 6))
 (try simp only [Act.put, Kx.sb, Kx.sz, Kx.ss])
 go_cut [12] (fun v12 wc => ∃ (kq : Nat) (x12_2 : Bool), v12 = .bool x12_2 ∧ Aside0 (waggonerref16_may_p.j0 kq a0 l1 x12_2 a0 0 0 0 0 0 = some (r1, r2, r3, r4, r5, r6, r7)) ∧ Aside0 (kq ≤ k) ∧ Aside0 (wc.heap[gb355]? = some (.cells #[.int .i64 0, .int .i64 0, .int .i64 0, (.slice none 0 0), .int .i64 0, .int .i64 0, .int .i64 0] 38 (0, 0))) ∧ Aside0 (wc.heap[gb356]? = some (.cells #[.int .i64 a0, .int .i64 0, .int .i64 0, (.slice none 0 0), .int .i64 0, .int .i64 0, .int .i64 0] 38 (0, 0))) ∧ Aside0 (Below w.heap.size w wc))
 case first =>
  have H := HC3.out
  clear HC3
  by_cases c8 : a0 = 1
  ·rw [if_pos c8] at H
   have c8b0 : (a0 == 1) = true := beq_iff_eq.mpr c8
   have c8b1 : (a0 != 1) = false := bne_eq_false_iff_eq.mpr c8
   clear c8
   (first | rw [c8b0] | (simp only [i64_w, i32_w]; rw [c8b0]) | skip)
   have H' := Aside0.mk H
   clear H
   go_wp2
   go_meet
   case rel => exact ⟨_, (((l1.length : Int) == 9)), (by first | rfl | (simp; done) | (simp [*]; done)), H', ⟨by first | omega | exact Nat.le_refl _⟩, ⟨by (with_reducible repeat (first | refine blk_drewN ?_ _ | refine blk_drew ?_ | refine blk_alloc ?_ _)); refine blk_far ?_ NB355_356.out _; (with_reducible repeat (first | refine blk_drewN ?_ _ | refine blk_drew ?_ | refine blk_alloc ?_ _)); refine blk_far ?_ NB355_356.out _; (with_reducible repeat (first | refine blk_drewN ?_ _ | refine blk_drew ?_ | refine blk_alloc ?_ _)); refine blk_far ?_ NB355_356.out _; (with_reducible repeat (first | refine blk_drewN ?_ _ | refine blk_drew ?_ | refine blk_alloc ?_ _)); refine blk_far ?_ NB355_356.out _; (with_reducible repeat (first | refine blk_drewN ?_ _ | refine blk_drew ?_ | refine blk_alloc ?_ _)); refine blk_far ?_ NB355_356.out _; (with_reducible repeat (first | refine blk_drewN ?_ _ | refine blk_drew ?_ | refine blk_alloc ?_ _)); refine blk_far ?_ NB355_356.out _; (with_reducible repeat (first | refine blk_drewN ?_ _ | refine blk_drew ?_ | refine blk_alloc ?_ _)); refine blk_far ?_ NB355_356.out _; (with_reducible repeat (first | refine blk_drewN ?_ _ | refine blk_drew ?_ | refine blk_alloc ?_ _)); exact BK355.out⟩, ⟨by (with_reducible repeat (first | refine blk_drewN ?_ _ | refine blk_drew ?_ | refine blk_alloc ?_ _)); refine blk_put (cs := #[.int .i64 a0, .int .i64 0, .int .i64 0, .slice none 0 0, .int .i64 0, .int .i64 0, .int .i64 0]) ?_ 6 _ rfl; (with_reducible repeat (first | refine blk_drewN ?_ _ | refine blk_drew ?_ | refine blk_alloc ?_ _)); refine blk_put (cs := #[.int .i64 a0, .int .i64 0, .int .i64 0, .slice none 0 0, .int .i64 0, .int .i64 0, .int .i64 0]) ?_ 5 _ rfl; (with_reducible repeat (first | refine blk_drewN ?_ _ | refine blk_drew ?_ | refine blk_alloc ?_ _)); refine blk_put (cs := #[.int .i64 a0, .int .i64 0, .int .i64 0, .slice none 0 0, .int .i64 0, .int .i64 0, .int .i64 0]) ?_ 4 _ rfl; (with_reducible repeat (first | refine blk_drewN ?_ _ | refine blk_drew ?_ | refine blk_alloc ?_ _)); refine blk_put (cs := #[.int .i64 a0, .int .i64 0, .int .i64 0, .slice none 0 0, .int .i64 0, .int .i64 0, .int .i64 0]) ?_ 3 _ rfl; (with_reducible repeat (first | refine blk_drewN ?_ _ | refine blk_drew ?_ | refine blk_alloc ?_ _)); refine blk_put (cs := #[.int .i64 a0, .int .i64 0, .int .i64 0, .slice none 0 0, .int .i64 0, .int .i64 0, .int .i64 0]) ?_ 2 _ rfl; (with_reducible repeat (first | refine blk_drewN ?_ _ | refine blk_drew ?_ | refine blk_alloc ?_ _)); refine blk_put (cs := #[.int .i64 a0, .int .i64 0, .int .i64 0, .slice none 0 0, .int .i64 0, .int .i64 0, .int .i64 0]) ?_ 1 _ rfl; (with_reducible repeat (first | refine blk_drewN ?_ _ | refine blk_drew ?_ | refine blk_alloc ?_ _)); refine blk_put (cs := #[.int .i64 0, .int .i64 0, .int .i64 0, .slice none 0 0, .int .i64 0, .int .i64 0, .int .i64 0]) ?_ 0 _ rfl; (with_reducible repeat (first | refine blk_drewN ?_ _ | refine blk_drew ?_ | refine blk_alloc ?_ _)); exact BK356.out⟩, ⟨by repeat (first | (with_reducible first | exact HB.out | apply below_alloc | apply pw_below_drewN | apply below_drew1 | refine below_set ?_ GE355.out | refine below_set ?_ GE356.out) | exact HB.out)⟩⟩
  ·rw [if_neg c8] at H
   have c8b0 : (a0 == 1) = false := beq_eq_false_iff_ne.mpr c8
   have c8b1 : (a0 != 1) = true := bne_iff_ne.mpr c8
   (first | rw [c8b0] | (simp only [i64_w, i32_w]; rw [c8b0]) | skip)
   have H' := Aside0.mk H
   clear H
   go_wp2
   go_meet
   case rel => exact ⟨_, (false), (by first | rfl | (simp; done) | (simp [*]; done)), H', ⟨by first | omega | exact Nat.le_refl _⟩, ⟨by (with_reducible repeat (first | refine blk_drewN ?_ _ | refine blk_drew ?_ | refine blk_alloc ?_ _)); refine blk_far ?_ NB355_356.out _; (with_reducible repeat (first | refine blk_drewN ?_ _ | refine blk_drew ?_ | refine blk_alloc ?_ _)); refine blk_far ?_ NB355_356.out _; (with_reducible repeat (first | refine blk_drewN ?_ _ | refine blk_drew ?_ | refine blk_alloc ?_ _)); refine blk_far ?_ NB355_356.out _; (with_reducible repeat (first | refine blk_drewN ?_ _ | refine blk_drew ?_ | refine blk_alloc ?_ _)); refine blk_far ?_ NB355_356.out _; (with_reducible repeat (first | refine blk_drewN ?_ _ | refine blk_drew ?_ | refine blk_alloc ?_ _)); refine blk_far ?_ NB355_356.out _; (with_reducible repeat (first | refine blk_drewN ?_ _ | refine blk_drew ?_ | refine blk_alloc ?_ _)); refine blk_far ?_ NB355_356.out _; (with_reducible repeat (first | refine blk_drewN ?_ _ | refine blk_drew ?_ | refine blk_alloc ?_ _)); refine blk_far ?_ NB355_356.out _; (with_reducible repeat (first | refine blk_drewN ?_ _ | refine blk_drew ?_ | refine blk_alloc ?_ _)); exact BK355.out⟩, ⟨by (with_reducible repeat (first | refine blk_drewN ?_ _ | refine blk_drew ?_ | refine blk_alloc ?_ _)); refine blk_put (cs := #[.int .i64 a0, .int .i64 0, .int .i64 0, .slice none 0 0, .int .i64 0, .int .i64 0, .int .i64 0]) ?_ 6 _ rfl; (with_reducible repeat (first | refine blk_drewN ?_ _ | refine blk_drew ?_ | refine blk_alloc ?_ _)); refine blk_put (cs := #[.int .i64 a0, .int .i64 0, .int .i64 0, .slice none 0 0, .int .i64 0, .int .i64 0, .int .i64 0]) ?_ 5 _ rfl; (with_reducible repeat (first | refine blk_drewN ?_ _ | refine blk_drew ?_ | refine blk_alloc ?_ _)); refine blk_put (cs := #[.int .i64 a0, .int .i64 0, .int .i64 0, .slice none 0 0, .int .i64 0, .int .i64 0, .int .i64 0]) ?_ 4 _ rfl; (with_reducible repeat (first | refine blk_drewN ?_ _ | refine blk_drew ?_ | refine blk_alloc ?_ _)); refine blk_put (cs := #[.int .i64 a0, .int .i64 0, .int .i64 0, .slice none 0 0, .int .i64 0, .int .i64 0, .int .i64 0]) ?_ 3 _ rfl; (with_reducible repeat (first | refine blk_drewN ?_ _ | refine blk_drew ?_ | refine blk_alloc ?_ _)); refine blk_put (cs := #[.int .i64 a0, .int .i64 0, .int .i64 0, .slice none 0 0, .int .i64 0, .int .i64 0, .int .i64 0]) ?_ 2 _ rfl; (with_reducible repeat (first | refine blk_drewN ?_ _ | refine blk_drew ?_ | refine blk_alloc ?_ _)); refine blk_put (cs := #[.int .i64 a0, .int .i64 0, .int .i64 0, .slice none 0 0, .int .i64 0, .int .i64 0, .int .i64 0]) ?_ 1 _ rfl; (with_reducible repeat (first | refine blk_drewN ?_ _ | refine blk_drew ?_ | refine blk_alloc ?_ _)); refine blk_put (cs := #[.int .i64 0, .int .i64 0, .int .i64 0, .slice none 0 0, .int .i64 0, .int .i64 0, .int .i64 0]) ?_ 0 _ rfl; (with_reducible repeat (first | refine blk_drewN ?_ _ | refine blk_drew ?_ | refine blk_alloc ?_ _)); exact BK356.out⟩, ⟨by repeat (first | (with_reducible first | exact HB.out | apply below_alloc | apply pw_below_drewN | apply below_drew1 | refine below_set ?_ GE355.out | refine below_set ?_ GE356.out) | exact HB.out)⟩⟩
 case rest =>
  clear HC3
  try clear c1
  try clear p2
  try clear c4
  try clear c6
  try clear c8
  try clear c8b0
  try clear c8b1
  try clear hcz7_0
  try clear hcz7_1
  try clear hcz7_2
  try clear hcz7_3
  try clear hcz7_4
  try clear hcz7_5
  try clear hcz7_6
  try clear hfz7_0
  try clear hfz7_1
  try clear hfz7_2
  try clear hfz7_3
  try clear hfz7_4
  try clear hfz7_5
  try clear hfz7_6
  obtain ⟨kq, x12_2, rfl, HA, HJ2, BK355, BK356, HB⟩ := hcut
  cases kq with
  | zero => exact absurd HA.out (by simp [waggonerref16_may_p.j0])
  | succ kj2 =>
   have H := HA.out
   clear HA
   simp only [waggonerref16_may_p.j0] at H
   by_cases c9 : x12_2 = true
   ·subst c9
    have H1 : ((waggonerref01_Unpack.f (⟨#[98, 119, 119]⟩ : ByteArray) l1).bind fun bt357 => (if 0 < (bt357.1.length : Int) then (if 1 < (bt357.1.length : Int) then (if 2 < (bt357.1.length : Int) then (some (a0, 0, 0, ([] : List Int), wrap64 (rd bt357.1 0), wrap64 (rd bt357.1 1), wrap64 (rd bt357.1 2))) else (none)) else (none)) else (none))) = some (r1, r2, r3, r4, r5, r6, r7) := by rw [if_pos rfl] at H <;> exact H
    clear H
    have H := H1
    clear H1
    replace H := Option.bind_eq_some_iff.mp H
    obtain ⟨⟨t357, t360⟩, A100, H⟩ := H
    replace H : (if 0 < (t357.length : Int) then (if 1 < (t357.length : Int) then (if 2 < (t357.length : Int) then (some (a0, 0, 0, ([] : List Int), wrap64 (rd t357 0), wrap64 (rd t357 1), wrap64 (rd t357 2))) else (none)) else (none)) else (none)) = some (r1, r2, r3, r4, r5, r6, r7) := H
    have A10 := Aside0.mk A100
    clear A100
    by_cases c11 : 0 < (t357.length : Int)
    ·rw [if_pos c11] at H
     have c11b0 : decide (0 < (t357.length : Int)) = true := decide_eq_true c11
     have c11b1 : decide (0 < t357.length) = true := decide_eq_true (by omega)
     clear c11
     by_cases c12 : 1 < (t357.length : Int)
     ·rw [if_pos c12] at H
      have c12b0 : decide (1 < (t357.length : Int)) = true := decide_eq_true c12
      have c12b1 : decide (1 < t357.length) = true := decide_eq_true (by omega)
      clear c12
      by_cases c13 : 2 < (t357.length : Int)
      ·rw [if_pos c13] at H
       have c13b0 : decide (2 < (t357.length : Int)) = true := decide_eq_true c13
       have c13b1 : decide (2 < t357.length) = true := decide_eq_true (by omega)
       clear c13
       simp only [Option.some.injEq, Prod.mk.injEq] at H
       obtain ⟨rfl, rfl, rfl, rfl, rfl, rfl, rfl⟩ := H
       go_wp2_with (first | ((with_reducible refine gate_callee (f := 73) rfl ?_); refine goesL_ (some 22) rfl rfl Try.func73 (by kernel_rfl) rfl #[.string (⟨#[98, 119, 119]⟩ : ByteArray), .slice A1 l1.length c1] rfl (by (try simp only [List.map_toArray, List.map_cons, List.map_nil]); first | done | rfl | (simp only [List.length_drop, List.length_take]; rfl)) ?_; (with_reducible refine (waggonerref01_Unpack.calls (⟨#[98, 119, 119]⟩ : ByteArray) (fun k_ => k_ < w.heap.size) _ _ l1 t357 t360 _ ?side1 A10.out).mono ?_); (case side1 => exact Kd.V_mk HC1.out (Kd.F_below (Kd.C_F (Kd.heap_int .u8) HR1.out) (by repeat (first | (with_reducible first | exact HB.out | apply below_alloc | apply pw_below_drewN | apply below_drew1 | refine below_set ?_ GE355.out | refine below_set ?_ GE356.out) | exact HB.out)))); rintro e w14 ⟨v358, rfl, ho0, hb⟩; refine ⟨_, rfl, ?_⟩; have n0_ := Aside0.mk (Kd.R_lower (Kd.R_mono (ok' := fun k_ => True) ho0 (fun _ hk_ => trivial)) (below_size (by repeat (first | (with_reducible first | exact HB.out | apply below_alloc | apply pw_below_drewN | apply below_drew1 | refine below_set ?_ GE355.out | refine below_set ?_ GE356.out) | exact HB.out)))); have n1_ := Aside0.mk (blk_below (g := gb355) (o := .cells #[.int .i64 0, .int .i64 0, .int .i64 0, .slice none 0 0, .int .i64 0, .int .i64 0, .int .i64 0] 38 (0, 0)) (by (with_reducible repeat (first | refine blk_drewN ?_ _ | refine blk_drew ?_ | refine blk_alloc ?_ _)); exact BK355.out) hb); have n2_ := Aside0.mk (blk_below (g := gb356) (o := .cells #[.int .i64 a0, .int .i64 0, .int .i64 0, .slice none 0 0, .int .i64 0, .int .i64 0, .int .i64 0] 38 (0, 0)) (by (with_reducible repeat (first | refine blk_drewN ?_ _ | refine blk_drew ?_ | refine blk_alloc ?_ _)); exact BK356.out) hb); have n3_ := Aside0.mk (below_step (by repeat (first | (with_reducible first | exact HB.out | apply below_alloc | apply pw_below_drewN | apply below_drew1 | refine below_set ?_ GE355.out | refine below_set ?_ GE356.out) | exact HB.out)) hb); clear BK355; clear BK356; clear HB; have HO359 := n0_; have BK355 := n1_; have BK356 := n2_; have HB := n3_; clear n0_ n1_ n2_ n3_; (try clear hb); (try clear hb2); (try clear hk); (try clear hi); (try clear ho0); obtain ⟨Ao15, co15, eo15⟩ := Kd.R_slice HO359.out; subst eo15; have p361 : 0 ≤ (0 : Int) := (by omega); have q361 : 0 < (t357.length : Int) := of_decide_eq_true (by first | (with_reducible assumption) | assumption); obtain ⟨ad361, e361, hx361_0⟩ := Kd.at_int (Kd.R_reads' HO359.out).2.2 0 p361 q361; cases e361; have qi361 : (0 < t357.length) = True := eq_true (by omega); (try rw [show ((0 : Int)).toNat = 0 from rfl] at hx361_0); (try rw [Addr.add_zero'] at hx361_0); replace p361 := eq_true p361; replace q361 := eq_true q361; have hnb16 := NB356_355.out; have hnc16 := NB355_356.out; have hcz17_0 : w14.cell? ⟨gb356, 0, none⟩ = some (.int .i64 a0) := (blk_cell BK356.out 0).trans rfl; have hcz17_1 : w14.cell? ⟨gb356, 1, none⟩ = some (.int .i64 0) := (blk_cell BK356.out 1).trans rfl; have hcz17_2 : w14.cell? ⟨gb356, 2, none⟩ = some (.int .i64 0) := (blk_cell BK356.out 2).trans rfl; have hcz17_3 : w14.cell? ⟨gb356, 3, none⟩ = some (.slice none 0 0) := (blk_cell BK356.out 3).trans rfl; have hcz17_4 : w14.cell? ⟨gb356, 4, none⟩ = some (.int .i64 0) := (blk_cell BK356.out 4).trans rfl; have hcz17_5 : w14.cell? ⟨gb356, 5, none⟩ = some (.int .i64 0) := (blk_cell BK356.out 5).trans rfl; have hcz17_6 : w14.cell? ⟨gb356, 6, none⟩ = some (.int .i64 0) := (blk_cell BK356.out 6).trans rfl; have hfz17_0 := blk_frozen BK356.out 0; have hfz17_1 := blk_frozen BK356.out 1; have hfz17_2 := blk_frozen BK356.out 2; have hfz17_3 := blk_frozen BK356.out 3; have hfz17_4 := blk_frozen BK356.out 4; have hfz17_5 := blk_frozen BK356.out 5; have hfz17_6 := blk_frozen BK356.out 6; have p362 : 0 ≤ (1 : Int) := (by omega); have q362 : 1 < (t357.length : Int) := of_decide_eq_true (by first | (with_reducible assumption) | assumption); obtain ⟨ad362, e362, hx362_0⟩ := Kd.at_int (Kd.R_reads' HO359.out).2.2 1 p362 q362; obtain rfl : ad361 = ad362 := (by injection e362); (try simp only [show (1 : Int).toNat = 1 from rfl, Nat.reduceMul, Nat.reduceEqDiff, Go.Addr.add, ↓reduceIte] at hx362_0); have qi362 : (1 < t357.length) = True := eq_true (by omega); (try rw [show ((1 : Int)).toNat = 1 from rfl] at hx362_0); have hn362_0 : ad361.block ≠ gb356 := Kd.own_blk (Kd.R_ne HO359.out BK356.out (by decide)); replace hx362_0 := (cell_far (p := ⟨gb356, 4, none⟩) (by first | (rw [add_block]; exact hn362_0) | (show (Addr.add _ _).block ≠ _; rw [add_block]; exact hn362_0) | exact hn362_0) (.int .i64 (wrap64 (rd t357 0)))).trans hx362_0; clear hn362_0; replace p362 := eq_true p362; replace q362 := eq_true q362; have p363 : 0 ≤ (2 : Int) := (by omega); have q363 : 2 < (t357.length : Int) := of_decide_eq_true (by first | (with_reducible assumption) | assumption); obtain ⟨ad363, e363, hx363_0⟩ := Kd.at_int (Kd.R_reads' HO359.out).2.2 2 p363 q363; obtain rfl : ad361 = ad363 := (by injection e363); (try simp only [show (2 : Int).toNat = 2 from rfl, Nat.reduceMul, Nat.reduceEqDiff, Go.Addr.add, ↓reduceIte] at hx363_0); have qi363 : (2 < t357.length) = True := eq_true (by omega); (try rw [show ((2 : Int)).toNat = 2 from rfl] at hx363_0); have hn363_0 : ad361.block ≠ gb356 := Kd.own_blk (Kd.R_ne HO359.out BK356.out (by decide)); have hn363_1 : ad361.block ≠ gb356 := Kd.own_blk (Kd.R_ne HO359.out BK356.out (by decide)); replace hx363_0 := (cell_far (p := ⟨gb356, 4, none⟩) (by first | (rw [add_block]; exact hn363_0) | (show (Addr.add _ _).block ≠ _; rw [add_block]; exact hn363_0) | exact hn363_0) (.int .i64 (wrap64 (rd t357 0)))).trans hx363_0; replace hx363_0 := (cell_far (p := ⟨gb356, 5, none⟩) (by first | (rw [add_block]; exact hn363_1) | (show (Addr.add _ _).block ≠ _; rw [add_block]; exact hn363_1) | exact hn363_1) (.int .i64 (wrap64 (rd t357 1)))).trans hx363_0; clear hn363_0; clear hn363_1; replace p363 := eq_true p363; replace q363 := eq_true q363; have hcz18_0 : w14.cell? ⟨gb355, 0, none⟩ = some (.int .i64 0) := (blk_cell BK355.out 0).trans rfl; have hcz18_1 : w14.cell? ⟨gb355, 1, none⟩ = some (.int .i64 0) := (blk_cell BK355.out 1).trans rfl; have hcz18_2 : w14.cell? ⟨gb355, 2, none⟩ = some (.int .i64 0) := (blk_cell BK355.out 2).trans rfl; have hcz18_3 : w14.cell? ⟨gb355, 3, none⟩ = some (.slice none 0 0) := (blk_cell BK355.out 3).trans rfl; have hcz18_4 : w14.cell? ⟨gb355, 4, none⟩ = some (.int .i64 0) := (blk_cell BK355.out 4).trans rfl; have hcz18_5 : w14.cell? ⟨gb355, 5, none⟩ = some (.int .i64 0) := (blk_cell BK355.out 5).trans rfl; have hcz18_6 : w14.cell? ⟨gb355, 6, none⟩ = some (.int .i64 0) := (blk_cell BK355.out 6).trans rfl; have hfz18_0 := blk_frozen BK355.out 0; have hfz18_1 := blk_frozen BK355.out 1; have hfz18_2 := blk_frozen BK355.out 2; have hfz18_3 := blk_frozen BK355.out 3; have hfz18_4 := blk_frozen BK355.out 4; have hfz18_5 := blk_frozen BK355.out 5; have hfz18_6 := blk_frozen BK355.out 6))
       refine bodyPost_ret (results_cell_row rfl _ _ gb355 38 #[.int .i64 a0, .int .i64 0, .int .i64 0, .slice none 0 0, .int .i64 (wrap64 (rd t357 0)), .int .i64 (wrap64 (rd t357 1)), .int .i64 (wrap64 (rd t357 2))] (0, 0) _ rfl (by (with_reducible repeat (first | refine blk_drewN ?_ _ | refine blk_drew ?_ | refine blk_alloc ?_ _)); refine blk_put (cs := #[.int .i64 a0, .int .i64 0, .int .i64 0, .slice none 0 0, .int .i64 (wrap64 (rd t357 0)), .int .i64 (wrap64 (rd t357 1)), .int .i64 0]) ?_ 6 _ rfl; (with_reducible repeat (first | refine blk_drewN ?_ _ | refine blk_drew ?_ | refine blk_alloc ?_ _)); refine blk_put (cs := #[.int .i64 a0, .int .i64 0, .int .i64 0, .slice none 0 0, .int .i64 (wrap64 (rd t357 0)), .int .i64 0, .int .i64 0]) ?_ 5 _ rfl; (with_reducible repeat (first | refine blk_drewN ?_ _ | refine blk_drew ?_ | refine blk_alloc ?_ _)); refine blk_put (cs := #[.int .i64 a0, .int .i64 0, .int .i64 0, .slice none 0 0, .int .i64 0, .int .i64 0, .int .i64 0]) ?_ 4 _ rfl; (with_reducible repeat (first | refine blk_drewN ?_ _ | refine blk_drew ?_ | refine blk_alloc ?_ _)); refine blk_put (cs := #[.int .i64 a0, .int .i64 0, .int .i64 0, .slice none 0 0, .int .i64 0, .int .i64 0, .int .i64 0]) ?_ 3 _ rfl; (with_reducible repeat (first | refine blk_drewN ?_ _ | refine blk_drew ?_ | refine blk_alloc ?_ _)); refine blk_put (cs := #[.int .i64 a0, .int .i64 0, .int .i64 0, .slice none 0 0, .int .i64 0, .int .i64 0, .int .i64 0]) ?_ 2 _ rfl; (with_reducible repeat (first | refine blk_drewN ?_ _ | refine blk_drew ?_ | refine blk_alloc ?_ _)); refine blk_put (cs := #[.int .i64 a0, .int .i64 0, .int .i64 0, .slice none 0 0, .int .i64 0, .int .i64 0, .int .i64 0]) ?_ 1 _ rfl; (with_reducible repeat (first | refine blk_drewN ?_ _ | refine blk_drew ?_ | refine blk_alloc ?_ _)); refine blk_put (cs := #[.int .i64 0, .int .i64 0, .int .i64 0, .slice none 0 0, .int .i64 0, .int .i64 0, .int .i64 0]) ?_ 0 _ rfl; (with_reducible repeat (first | refine blk_drewN ?_ _ | refine blk_drew ?_ | refine blk_alloc ?_ _)); refine blk_far ?_ NB355_356.out _; (with_reducible repeat (first | refine blk_drewN ?_ _ | refine blk_drew ?_ | refine blk_alloc ?_ _)); refine blk_far ?_ NB355_356.out _; (with_reducible repeat (first | refine blk_drewN ?_ _ | refine blk_drew ?_ | refine blk_alloc ?_ _)); refine blk_far ?_ NB355_356.out _; (with_reducible repeat (first | refine blk_drewN ?_ _ | refine blk_drew ?_ | refine blk_alloc ?_ _)); exact BK355.out) Try.underlying38 rfl (by kernel_rfl)) rfl ?_
       exact ⟨_, by first | rfl | (simp [errW_none, errW_some] <;> rfl) | (simp [*, errW_none, errW_some] <;> rfl), by first | exact Kd.R_nil _ _ _ _ _ | exact Kd.N_nil _ _ _ _ _ | exact Kd.V_nil _ _ _ _ _ | exact Kd.Q_nil _ _ _ _ _ | exact Kd.S_nil _ _ _ _ _, by repeat (first | (with_reducible first | exact HB.out | apply below_alloc | apply pw_below_drewN | apply below_drew1 | refine below_set ?_ GE355.out | refine below_set ?_ GE356.out) | exact HB.out)⟩
      ·rw [if_neg c13] at H
       exact absurd H (by simp)
     ·rw [if_neg c12] at H
      exact absurd H (by simp)
    ·rw [if_neg c11] at H
     exact absurd H (by simp)
   ·replace c9 := Bool.eq_false_iff.mpr c9
    subst c9
    have H1 : (if a0 = 5 then (waggonerref16_may_p.j1 kj2 l1 ((l1.length : Int) == 6) a0 0 0 0 0 0) else (waggonerref16_may_p.j1 kj2 l1 false a0 0 0 0 0 0)) = some (r1, r2, r3, r4, r5, r6, r7) := by rw [if_neg (show ¬ (false = true) by decide)] at H <;> exact H
    clear H
    have H := H1
    clear H1
    have HC19 := Aside0.mk H
    clear H
    go_upto_region 7 with (fail)
    go_cut [40] (fun v40 wc => ∃ (kq : Nat) (x40_18 : Bool), v40 = .bool x40_18 ∧ Aside0 (waggonerref16_may_p.j1 kq l1 x40_18 a0 0 0 0 0 0 = some (r1, r2, r3, r4, r5, r6, r7)) ∧ Aside0 (kq ≤ kj2) ∧ Aside0 (wc.heap[gb355]? = some (.cells #[.int .i64 0, .int .i64 0, .int .i64 0, (.slice none 0 0), .int .i64 0, .int .i64 0, .int .i64 0] 38 (0, 0))) ∧ Aside0 (wc.heap[gb356]? = some (.cells #[.int .i64 a0, .int .i64 0, .int .i64 0, (.slice none 0 0), .int .i64 0, .int .i64 0, .int .i64 0] 38 (0, 0))) ∧ Aside0 (Below w.heap.size w wc))
    case first =>
     have H := HC19.out
     clear HC19
     by_cases c20 : a0 = 5
     ·rw [if_pos c20] at H
      have c20b0 : (a0 == 5) = true := beq_iff_eq.mpr c20
      have c20b1 : (a0 != 5) = false := bne_eq_false_iff_eq.mpr c20
      clear c20
      (first | rw [c20b0] | (simp only [i64_w, i32_w]; rw [c20b0]) | skip)
      have H' := Aside0.mk H
      clear H
      go_wp2
      go_meet
      case rel => exact ⟨_, (((l1.length : Int) == 6)), (by first | rfl | (simp; done) | (simp [*]; done)), H', ⟨by have := HJ2.out; first | omega | exact Nat.le_refl _⟩, ⟨by (with_reducible repeat (first | refine blk_drewN ?_ _ | refine blk_drew ?_ | refine blk_alloc ?_ _)); exact BK355.out⟩, ⟨by (with_reducible repeat (first | refine blk_drewN ?_ _ | refine blk_drew ?_ | refine blk_alloc ?_ _)); exact BK356.out⟩, ⟨by repeat (first | (with_reducible first | exact HB.out | apply below_alloc | apply pw_below_drewN | apply below_drew1 | refine below_set ?_ GE355.out | refine below_set ?_ GE356.out) | exact HB.out)⟩⟩
     ·rw [if_neg c20] at H
      have c20b0 : (a0 == 5) = false := beq_eq_false_iff_ne.mpr c20
      have c20b1 : (a0 != 5) = true := bne_iff_ne.mpr c20
      (first | rw [c20b0] | (simp only [i64_w, i32_w]; rw [c20b0]) | skip)
      have H' := Aside0.mk H
      clear H
      go_wp2
      go_meet
      case rel => exact ⟨_, (false), (by first | rfl | (simp; done) | (simp [*]; done)), H', ⟨by have := HJ2.out; first | omega | exact Nat.le_refl _⟩, ⟨by (with_reducible repeat (first | refine blk_drewN ?_ _ | refine blk_drew ?_ | refine blk_alloc ?_ _)); exact BK355.out⟩, ⟨by (with_reducible repeat (first | refine blk_drewN ?_ _ | refine blk_drew ?_ | refine blk_alloc ?_ _)); exact BK356.out⟩, ⟨by repeat (first | (with_reducible first | exact HB.out | apply below_alloc | apply pw_below_drewN | apply below_drew1 | refine below_set ?_ GE355.out | refine below_set ?_ GE356.out) | exact HB.out)⟩⟩
    case rest =>
     clear HC19
     try clear c1
     try clear c2
     try clear p2
     try clear p3
     try clear q3
     try clear hx3
     try clear qi3
     try clear c4
     try clear c6
     try clear p6
     try clear c7
     try clear c8
     try clear c8b0
     try clear c8b1
     try clear c9
     try clear c11
     try clear c11b0
     try clear c11b1
     try clear c12
     try clear c12b0
     try clear c12b1
     try clear c13
     try clear c13b0
     try clear c13b1
     try clear c16
     try clear c20
     try clear c20b0
     try clear c20b1
     try clear hcz17_0
     try clear hcz17_1
     try clear hcz17_2
     try clear hcz17_3
     try clear hcz17_4
     try clear hcz17_5
     try clear hcz17_6
     try clear hcz18_0
     try clear hcz18_1
     try clear hcz18_2
     try clear hcz18_3
     try clear hcz18_4
     try clear hcz18_5
     try clear hcz18_6
     try clear hcz7_0
     try clear hcz7_1
     try clear hcz7_2
     try clear hcz7_3
     try clear hcz7_4
     try clear hcz7_5
     try clear hcz7_6
     try clear hfz17_0
     try clear hfz17_1
     try clear hfz17_2
     try clear hfz17_3
     try clear hfz17_4
     try clear hfz17_5
     try clear hfz17_6
     try clear hfz18_0
     try clear hfz18_1
     try clear hfz18_2
     try clear hfz18_3
     try clear hfz18_4
     try clear hfz18_5
     try clear hfz18_6
     try clear hfz7_0
     try clear hfz7_1
     try clear hfz7_2
     try clear hfz7_3
     try clear hfz7_4
     try clear hfz7_5
     try clear hfz7_6
     try clear hx361_0
     try clear hx362_0
     try clear hx363_0
     try clear p2
     try clear p361
     try clear p362
     try clear p363
     try clear q361
     try clear q362
     try clear q363
     obtain ⟨kq, x40_18, rfl, HA, HJ18, BK355, BK356, HB⟩ := hcut
     cases kq with
     | zero => exact absurd HA.out (by simp [waggonerref16_may_p.j1])
     | succ kj18 =>
      have H := HA.out
      clear HA
      simp only [waggonerref16_may_p.j1] at H
      by_cases c21 : x40_18 = true
      ·subst c21
       have H1 : ((waggonerref01_Unpack.f (⟨#[104, 119]⟩ : ByteArray) l1).bind fun bt364 => (if 0 < (bt364.1.length : Int) then (if 1 < (bt364.1.length : Int) then (some (a0, 0, 0, ([] : List Int), wrap64 (rd bt364.1 0), wrap64 (rd bt364.1 1), 0)) else (none)) else (none))) = some (r1, r2, r3, r4, r5, r6, r7) := by rw [if_pos rfl] at H <;> exact H
       clear H
       have H := H1
       clear H1
       replace H := Option.bind_eq_some_iff.mp H
       obtain ⟨⟨t364, t367⟩, A220, H⟩ := H
       replace H : (if 0 < (t364.length : Int) then (if 1 < (t364.length : Int) then (some (a0, 0, 0, ([] : List Int), wrap64 (rd t364 0), wrap64 (rd t364 1), 0)) else (none)) else (none)) = some (r1, r2, r3, r4, r5, r6, r7) := H
       have A22 := Aside0.mk A220
       clear A220
       by_cases c23 : 0 < (t364.length : Int)
       ·rw [if_pos c23] at H
        have c23b0 : decide (0 < (t364.length : Int)) = true := decide_eq_true c23
        have c23b1 : decide (0 < t364.length) = true := decide_eq_true (by omega)
        clear c23
        by_cases c24 : 1 < (t364.length : Int)
        ·rw [if_pos c24] at H
         have c24b0 : decide (1 < (t364.length : Int)) = true := decide_eq_true c24
         have c24b1 : decide (1 < t364.length) = true := decide_eq_true (by omega)
         clear c24
         simp only [Option.some.injEq, Prod.mk.injEq] at H
         obtain ⟨rfl, rfl, rfl, rfl, rfl, rfl, rfl⟩ := H
         go_wp2_with (first | ((with_reducible refine gate_callee (f := 73) rfl ?_); refine goesL_ (some 50) rfl rfl Try.func73 (by kernel_rfl) rfl #[.string (⟨#[104, 119]⟩ : ByteArray), .slice A1 l1.length c1] rfl (by (try simp only [List.map_toArray, List.map_cons, List.map_nil]); first | done | rfl | (simp only [List.length_drop, List.length_take]; rfl)) ?_; (with_reducible refine (waggonerref01_Unpack.calls (⟨#[104, 119]⟩ : ByteArray) (fun k_ => k_ < w.heap.size) _ _ l1 t364 t367 _ ?side1 A22.out).mono ?_); (case side1 => exact Kd.V_mk HC1.out (Kd.F_below (Kd.C_F (Kd.heap_int .u8) HR1.out) (by repeat (first | (with_reducible first | exact HB.out | apply below_alloc | apply pw_below_drewN | apply below_drew1 | refine below_set ?_ GE355.out | refine below_set ?_ GE356.out) | exact HB.out)))); rintro e w25 ⟨v365, rfl, ho0, hb⟩; refine ⟨_, rfl, ?_⟩; have n0_ := Aside0.mk (Kd.R_lower (Kd.R_mono (ok' := fun k_ => True) ho0 (fun _ hk_ => trivial)) (below_size (by repeat (first | (with_reducible first | exact HB.out | apply below_alloc | apply pw_below_drewN | apply below_drew1 | refine below_set ?_ GE355.out | refine below_set ?_ GE356.out) | exact HB.out)))); have n1_ := Aside0.mk (blk_below (g := gb355) (o := .cells #[.int .i64 0, .int .i64 0, .int .i64 0, .slice none 0 0, .int .i64 0, .int .i64 0, .int .i64 0] 38 (0, 0)) (by (with_reducible repeat (first | refine blk_drewN ?_ _ | refine blk_drew ?_ | refine blk_alloc ?_ _)); exact BK355.out) hb); have n2_ := Aside0.mk (blk_below (g := gb356) (o := .cells #[.int .i64 a0, .int .i64 0, .int .i64 0, .slice none 0 0, .int .i64 0, .int .i64 0, .int .i64 0] 38 (0, 0)) (by (with_reducible repeat (first | refine blk_drewN ?_ _ | refine blk_drew ?_ | refine blk_alloc ?_ _)); exact BK356.out) hb); have n3_ := Aside0.mk (below_step (by repeat (first | (with_reducible first | exact HB.out | apply below_alloc | apply pw_below_drewN | apply below_drew1 | refine below_set ?_ GE355.out | refine below_set ?_ GE356.out) | exact HB.out)) hb); clear BK355; clear BK356; clear HB; have HO366 := n0_; have BK355 := n1_; have BK356 := n2_; have HB := n3_; clear n0_ n1_ n2_ n3_; (try clear hb); (try clear hb2); (try clear hk); (try clear hi); (try clear ho0); obtain ⟨Ao26, co26, eo26⟩ := Kd.R_slice HO366.out; subst eo26; have p368 : 0 ≤ (0 : Int) := (by omega); have q368 : 0 < (t364.length : Int) := of_decide_eq_true (by first | (with_reducible assumption) | assumption); obtain ⟨ad368, e368, hx368_0⟩ := Kd.at_int (Kd.R_reads' HO366.out).2.2 0 p368 q368; cases e368; have qi368 : (0 < t364.length) = True := eq_true (by omega); (try rw [show ((0 : Int)).toNat = 0 from rfl] at hx368_0); (try rw [Addr.add_zero'] at hx368_0); replace p368 := eq_true p368; replace q368 := eq_true q368; have hnb27 := NB356_355.out; have hnc27 := NB355_356.out; have hcz28_0 : w25.cell? ⟨gb356, 0, none⟩ = some (.int .i64 a0) := (blk_cell BK356.out 0).trans rfl; have hcz28_1 : w25.cell? ⟨gb356, 1, none⟩ = some (.int .i64 0) := (blk_cell BK356.out 1).trans rfl; have hcz28_2 : w25.cell? ⟨gb356, 2, none⟩ = some (.int .i64 0) := (blk_cell BK356.out 2).trans rfl; have hcz28_3 : w25.cell? ⟨gb356, 3, none⟩ = some (.slice none 0 0) := (blk_cell BK356.out 3).trans rfl; have hcz28_4 : w25.cell? ⟨gb356, 4, none⟩ = some (.int .i64 0) := (blk_cell BK356.out 4).trans rfl; have hcz28_5 : w25.cell? ⟨gb356, 5, none⟩ = some (.int .i64 0) := (blk_cell BK356.out 5).trans rfl; have hcz28_6 : w25.cell? ⟨gb356, 6, none⟩ = some (.int .i64 0) := (blk_cell BK356.out 6).trans rfl; have hfz28_0 := blk_frozen BK356.out 0; have hfz28_1 := blk_frozen BK356.out 1; have hfz28_2 := blk_frozen BK356.out 2; have hfz28_3 := blk_frozen BK356.out 3; have hfz28_4 := blk_frozen BK356.out 4; have hfz28_5 := blk_frozen BK356.out 5; have hfz28_6 := blk_frozen BK356.out 6; have p369 : 0 ≤ (1 : Int) := (by omega); have q369 : 1 < (t364.length : Int) := of_decide_eq_true (by first | (with_reducible assumption) | assumption); obtain ⟨ad369, e369, hx369_0⟩ := Kd.at_int (Kd.R_reads' HO366.out).2.2 1 p369 q369; obtain rfl : ad368 = ad369 := (by injection e369); (try simp only [show (1 : Int).toNat = 1 from rfl, Nat.reduceMul, Nat.reduceEqDiff, Go.Addr.add, ↓reduceIte] at hx369_0); have qi369 : (1 < t364.length) = True := eq_true (by omega); (try rw [show ((1 : Int)).toNat = 1 from rfl] at hx369_0); have hn369_0 : ad368.block ≠ gb356 := Kd.own_blk (Kd.R_ne HO366.out BK356.out (by decide)); replace hx369_0 := (cell_far (p := ⟨gb356, 4, none⟩) (by first | (rw [add_block]; exact hn369_0) | (show (Addr.add _ _).block ≠ _; rw [add_block]; exact hn369_0) | exact hn369_0) (.int .i64 (wrap64 (rd t364 0)))).trans hx369_0; clear hn369_0; replace p369 := eq_true p369; replace q369 := eq_true q369; have hcz29_0 : w25.cell? ⟨gb355, 0, none⟩ = some (.int .i64 0) := (blk_cell BK355.out 0).trans rfl; have hcz29_1 : w25.cell? ⟨gb355, 1, none⟩ = some (.int .i64 0) := (blk_cell BK355.out 1).trans rfl; have hcz29_2 : w25.cell? ⟨gb355, 2, none⟩ = some (.int .i64 0) := (blk_cell BK355.out 2).trans rfl; have hcz29_3 : w25.cell? ⟨gb355, 3, none⟩ = some (.slice none 0 0) := (blk_cell BK355.out 3).trans rfl; have hcz29_4 : w25.cell? ⟨gb355, 4, none⟩ = some (.int .i64 0) := (blk_cell BK355.out 4).trans rfl; have hcz29_5 : w25.cell? ⟨gb355, 5, none⟩ = some (.int .i64 0) := (blk_cell BK355.out 5).trans rfl; have hcz29_6 : w25.cell? ⟨gb355, 6, none⟩ = some (.int .i64 0) := (blk_cell BK355.out 6).trans rfl; have hfz29_0 := blk_frozen BK355.out 0; have hfz29_1 := blk_frozen BK355.out 1; have hfz29_2 := blk_frozen BK355.out 2; have hfz29_3 := blk_frozen BK355.out 3; have hfz29_4 := blk_frozen BK355.out 4; have hfz29_5 := blk_frozen BK355.out 5; have hfz29_6 := blk_frozen BK355.out 6))
         refine bodyPost_ret (results_cell_row rfl _ _ gb355 38 #[.int .i64 a0, .int .i64 0, .int .i64 0, .slice none 0 0, .int .i64 (wrap64 (rd t364 0)), .int .i64 (wrap64 (rd t364 1)), .int .i64 0] (0, 0) _ rfl (by (with_reducible repeat (first | refine blk_drewN ?_ _ | refine blk_drew ?_ | refine blk_alloc ?_ _)); refine blk_put (cs := #[.int .i64 a0, .int .i64 0, .int .i64 0, .slice none 0 0, .int .i64 (wrap64 (rd t364 0)), .int .i64 (wrap64 (rd t364 1)), .int .i64 0]) ?_ 6 _ rfl; (with_reducible repeat (first | refine blk_drewN ?_ _ | refine blk_drew ?_ | refine blk_alloc ?_ _)); refine blk_put (cs := #[.int .i64 a0, .int .i64 0, .int .i64 0, .slice none 0 0, .int .i64 (wrap64 (rd t364 0)), .int .i64 0, .int .i64 0]) ?_ 5 _ rfl; (with_reducible repeat (first | refine blk_drewN ?_ _ | refine blk_drew ?_ | refine blk_alloc ?_ _)); refine blk_put (cs := #[.int .i64 a0, .int .i64 0, .int .i64 0, .slice none 0 0, .int .i64 0, .int .i64 0, .int .i64 0]) ?_ 4 _ rfl; (with_reducible repeat (first | refine blk_drewN ?_ _ | refine blk_drew ?_ | refine blk_alloc ?_ _)); refine blk_put (cs := #[.int .i64 a0, .int .i64 0, .int .i64 0, .slice none 0 0, .int .i64 0, .int .i64 0, .int .i64 0]) ?_ 3 _ rfl; (with_reducible repeat (first | refine blk_drewN ?_ _ | refine blk_drew ?_ | refine blk_alloc ?_ _)); refine blk_put (cs := #[.int .i64 a0, .int .i64 0, .int .i64 0, .slice none 0 0, .int .i64 0, .int .i64 0, .int .i64 0]) ?_ 2 _ rfl; (with_reducible repeat (first | refine blk_drewN ?_ _ | refine blk_drew ?_ | refine blk_alloc ?_ _)); refine blk_put (cs := #[.int .i64 a0, .int .i64 0, .int .i64 0, .slice none 0 0, .int .i64 0, .int .i64 0, .int .i64 0]) ?_ 1 _ rfl; (with_reducible repeat (first | refine blk_drewN ?_ _ | refine blk_drew ?_ | refine blk_alloc ?_ _)); refine blk_put (cs := #[.int .i64 0, .int .i64 0, .int .i64 0, .slice none 0 0, .int .i64 0, .int .i64 0, .int .i64 0]) ?_ 0 _ rfl; (with_reducible repeat (first | refine blk_drewN ?_ _ | refine blk_drew ?_ | refine blk_alloc ?_ _)); refine blk_far ?_ NB355_356.out _; (with_reducible repeat (first | refine blk_drewN ?_ _ | refine blk_drew ?_ | refine blk_alloc ?_ _)); refine blk_far ?_ NB355_356.out _; (with_reducible repeat (first | refine blk_drewN ?_ _ | refine blk_drew ?_ | refine blk_alloc ?_ _)); exact BK355.out) Try.underlying38 rfl (by kernel_rfl)) rfl ?_
         exact ⟨_, by first | rfl | (simp [errW_none, errW_some] <;> rfl) | (simp [*, errW_none, errW_some] <;> rfl), by first | exact Kd.R_nil _ _ _ _ _ | exact Kd.N_nil _ _ _ _ _ | exact Kd.V_nil _ _ _ _ _ | exact Kd.Q_nil _ _ _ _ _ | exact Kd.S_nil _ _ _ _ _, by repeat (first | (with_reducible first | exact HB.out | apply below_alloc | apply pw_below_drewN | apply below_drew1 | refine below_set ?_ GE355.out | refine below_set ?_ GE356.out) | exact HB.out)⟩
        ·rw [if_neg c24] at H
         exact absurd H (by simp)
       ·rw [if_neg c23] at H
        exact absurd H (by simp)
      ·replace c21 := Bool.eq_false_iff.mpr c21
       subst c21
       have H1 : (if (l1.length : Int) ≥ 2 then (if 0 < (l1.length : Int) then (if 1 < (l1.length : Int) then (if 2 ≤ (l1.length : Int) then (if ([] : List Int).length + (l1.drop 2).length < 140737488355328 then (some (a0, wrap64 (rd l1 0), wrap64 (rd l1 1), (([] : List Int) ++ (l1.drop 2)), 0, 0, 0)) else (none)) else (none)) else (none)) else (none)) else (some (a0, 0, 0, ([] : List Int), 0, 0, 0))) = some (r1, r2, r3, r4, r5, r6, r7) := by rw [if_neg (show ¬ (false = true) by decide)] at H <;> exact H
       clear H
       have H := H1
       clear H1
       by_cases c30 : (l1.length : Int) ≥ 2
       ·rw [if_pos c30] at H
        have c30b0 : decide (2 ≤ (l1.length : Int)) = true := decide_eq_true c30
        have c30b1 : decide (2 ≤ l1.length) = true := decide_eq_true (by omega)
        clear c30
        by_cases c31 : 0 < (l1.length : Int)
        ·rw [if_pos c31] at H
         have c31b0 : decide (0 < (l1.length : Int)) = true := decide_eq_true c31
         have c31b1 : decide (0 < l1.length) = true := decide_eq_true (by omega)
         clear c31
         by_cases c32 : 1 < (l1.length : Int)
         ·rw [if_pos c32] at H
          have c32b0 : decide (1 < (l1.length : Int)) = true := decide_eq_true c32
          have c32b1 : decide (1 < l1.length) = true := decide_eq_true (by omega)
          clear c32
          by_cases c33 : 2 ≤ (l1.length : Int)
          ·rw [if_pos c33] at H
           have c33b0 := eq_true c33
           have c33b1 : decide (2 ≤ (l1.length : Int)) = true := decide_eq_true c33
           clear c33
           by_cases c34 : ([] : List Int).length + (l1.drop 2).length < 140737488355328
           ·rw [if_pos c34] at H
            have LMc34 := Aside0.mk c34
            clear c34
            obtain ⟨y373, hy373⟩ : ∃ y_ : List Int, y_ = (([] : List Int) ++ (l1.drop 2)) := ⟨_, rfl⟩
            replace H : (some (a0, wrap64 (rd l1 0), wrap64 (rd l1 1), y373, 0, 0, 0)) = some (r1, r2, r3, r4, r5, r6, r7) := by first | (rw [hy373]; with_reducible exact H) | (have H2_ := (Option.bind_some _ _).symm.trans H; rw [hy373]; with_reducible exact H2_) | (have H2_ := (Option.bind_some _ _).symm.trans H; with_reducible exact H2_) | with_reducible exact H | (rw [hy373]; exact H) | exact H
            have Ny373 := Aside0.mk hy373
            clear hy373
            simp only [Option.some.injEq, Prod.mk.injEq] at H
            obtain ⟨rfl, rfl, rfl, rfl, rfl, rfl, rfl⟩ := H
            have p370 : 0 ≤ (0 : Int) := (by omega)
            have q370 : 0 < (l1.length : Int) := of_decide_eq_true (by first | (with_reducible assumption) | assumption)
            obtain ⟨ad370, e370, hx370_0⟩ := Kd.at_int HR1.out 0 p370 q370
            cases e370
            have qi370 : (0 < l1.length) = True := eq_true (by omega)
            (try rw [show ((0 : Int)).toNat = 0 from rfl] at hx370_0)
            (try rw [Addr.add_zero'] at hx370_0)
            replace hx370_0 := (HB.out.cell (World.block_lt_of_cell? w _ hx370_0)).trans hx370_0
            replace p370 := eq_true p370
            replace q370 := eq_true q370
            have hnb35 := NB356_355.out
            have hnc35 := NB355_356.out
            have hcz36_0 : wc.cell? ⟨gb356, 0, none⟩ = some (.int .i64 a0) := (blk_cell BK356.out 0).trans rfl
            have hcz36_1 : wc.cell? ⟨gb356, 1, none⟩ = some (.int .i64 0) := (blk_cell BK356.out 1).trans rfl
            have hcz36_2 : wc.cell? ⟨gb356, 2, none⟩ = some (.int .i64 0) := (blk_cell BK356.out 2).trans rfl
            have hcz36_3 : wc.cell? ⟨gb356, 3, none⟩ = some (.slice none 0 0) := (blk_cell BK356.out 3).trans rfl
            have hcz36_4 : wc.cell? ⟨gb356, 4, none⟩ = some (.int .i64 0) := (blk_cell BK356.out 4).trans rfl
            have hcz36_5 : wc.cell? ⟨gb356, 5, none⟩ = some (.int .i64 0) := (blk_cell BK356.out 5).trans rfl
            have hcz36_6 : wc.cell? ⟨gb356, 6, none⟩ = some (.int .i64 0) := (blk_cell BK356.out 6).trans rfl
            have hfz36_0 := blk_frozen BK356.out 0
            have hfz36_1 := blk_frozen BK356.out 1
            have hfz36_2 := blk_frozen BK356.out 2
            have hfz36_3 := blk_frozen BK356.out 3
            have hfz36_4 := blk_frozen BK356.out 4
            have hfz36_5 := blk_frozen BK356.out 5
            have hfz36_6 := blk_frozen BK356.out 6
            have p371 : 0 ≤ (1 : Int) := (by omega)
            have q371 : 1 < (l1.length : Int) := of_decide_eq_true (by first | (with_reducible assumption) | assumption)
            obtain ⟨ad371, e371, hx371_0⟩ := Kd.at_int HR1.out 1 p371 q371
            obtain rfl : ad370 = ad371 := (by injection e371)
            (try simp only [show (1 : Int).toNat = 1 from rfl, Nat.reduceMul, Nat.reduceEqDiff, Go.Addr.add, ↓reduceIte] at hx371_0)
            have qi371 : (1 < l1.length) = True := eq_true (by omega)
            (try rw [show ((1 : Int)).toNat = 1 from rfl] at hx371_0)
            have hn371_0 : ad370.block ≠ gb356 := Nat.ne_of_lt (Nat.lt_of_lt_of_le (by have := World.block_lt_of_cell? _ _ hx371_0; first | rwa [add_block] at this | exact this) GW356.out)
            replace hx371_0 := (HB.out.cell (World.block_lt_of_cell? w _ hx371_0)).trans hx371_0
            replace hx371_0 := (cell_far (p := ⟨gb356, 1, none⟩) (by first | (rw [add_block]; exact hn371_0) | (show (Addr.add _ _).block ≠ _; rw [add_block]; exact hn371_0) | exact hn371_0) (.int .i64 (wrap64 (rd l1 0)))).trans hx371_0
            clear hn371_0
            replace p371 := eq_true p371
            replace q371 := eq_true q371
            try go_wp2
            have n0_ : Aside0 (((wc.setCell ⟨gb356, 1, none⟩ (.int .i64 (wrap64 (rd l1 0)))).setCell ⟨gb356, 2, none⟩ (.int .i64 (wrap64 (rd l1 1)))).heap[gb355]? = some (.cells #[.int .i64 0, .int .i64 0, .int .i64 0, .slice none 0 0, .int .i64 0, .int .i64 0, .int .i64 0] 38 (0, 0))) := ⟨by (with_reducible repeat (first | refine blk_drewN ?_ _ | refine blk_drew ?_ | refine blk_alloc ?_ _)); refine blk_far ?_ NB355_356.out _; (with_reducible repeat (first | refine blk_drewN ?_ _ | refine blk_drew ?_ | refine blk_alloc ?_ _)); refine blk_far ?_ NB355_356.out _; (with_reducible repeat (first | refine blk_drewN ?_ _ | refine blk_drew ?_ | refine blk_alloc ?_ _)); exact BK355.out⟩
            have n1_ : Aside0 (((wc.setCell ⟨gb356, 1, none⟩ (.int .i64 (wrap64 (rd l1 0)))).setCell ⟨gb356, 2, none⟩ (.int .i64 (wrap64 (rd l1 1)))).heap[gb356]? = some (.cells #[.int .i64 a0, .int .i64 (wrap64 (rd l1 0)), .int .i64 (wrap64 (rd l1 1)), .slice none 0 0, .int .i64 0, .int .i64 0, .int .i64 0] 38 (0, 0))) := ⟨by (with_reducible repeat (first | refine blk_drewN ?_ _ | refine blk_drew ?_ | refine blk_alloc ?_ _)); refine blk_put (cs := #[.int .i64 a0, .int .i64 (wrap64 (rd l1 0)), .int .i64 0, .slice none 0 0, .int .i64 0, .int .i64 0, .int .i64 0]) ?_ 2 _ rfl; (with_reducible repeat (first | refine blk_drewN ?_ _ | refine blk_drew ?_ | refine blk_alloc ?_ _)); refine blk_put (cs := #[.int .i64 a0, .int .i64 0, .int .i64 0, .slice none 0 0, .int .i64 0, .int .i64 0, .int .i64 0]) ?_ 1 _ rfl; (with_reducible repeat (first | refine blk_drewN ?_ _ | refine blk_drew ?_ | refine blk_alloc ?_ _)); exact BK356.out⟩
            have n2_ : Aside0 (Below w.heap.size w ((wc.setCell ⟨gb356, 1, none⟩ (.int .i64 (wrap64 (rd l1 0)))).setCell ⟨gb356, 2, none⟩ (.int .i64 (wrap64 (rd l1 1))))) := ⟨by repeat (first | (with_reducible first | exact HB.out | apply below_alloc | apply pw_below_drewN | apply below_drew1 | refine below_set ?_ GE355.out | refine below_set ?_ GE356.out) | exact HB.out)⟩
            (try clear BK355)
            (try clear BK356)
            (try clear HB)
            generalize ((wc.setCell ⟨gb356, 1, none⟩ (.int .i64 (wrap64 (rd l1 0)))).setCell ⟨gb356, 2, none⟩ (.int .i64 (wrap64 (rd l1 1)))) = w37 at n0_ n1_ n2_ ⊢
            have BK355 := n0_
            have BK356 := n1_
            have HB := n2_
            clear n0_ n1_ n2_
            have n0_ := Aside0.mk (blk_drew BK355.out)
            have n1_ := Aside0.mk (blk_drew BK356.out)
            have n2_ := Aside0.mk (below_drew1 HB.out)
            clear BK355
            clear BK356
            clear HB
            have BK355 := n0_
            have BK356 := n1_
            have HB := n2_
            clear n0_ n1_ n2_
            obtain ⟨i039, hi039, _, hsz39, _⟩ := info_parts info5
            obtain ⟨A39, hcut39, hA39, hC39⟩ := print_drop_of (P := Try.prog) (Value.int .u8) 0 27 5 .i64 Try.underlying27 hi039 hsz39 (some ad370) c1 l1 2 (by omega) (of_decide_eq_true (by first | (with_reducible assumption) | assumption)) HC1.out
            have HR372 := Aside0.mk (Kd.C_of_reads (h1 := fun _ => rfl) (hA39 _ (Kd.reads_of_C HR1.out)))
            have HC372 := Aside0.mk hC39
            clear hA39 hC39 hi039 hsz39
            refine start_ (n := 7) (S := fun w' => w'.cell? ⟨gb356, 0, none⟩ = some (.int .i64 a0) ∧ w'.cell? ⟨gb356, 1, none⟩ = some (.int .i64 (wrap64 (rd l1 0))) ∧ w'.cell? ⟨gb356, 2, none⟩ = some (.int .i64 (wrap64 (rd l1 1))) ∧ w'.cell? ⟨gb356, 3, none⟩ = some (.slice none 0 0) ∧ w'.cell? ⟨gb356, 4, none⟩ = some (.int .i64 0) ∧ w'.cell? ⟨gb356, 5, none⟩ = some (.int .i64 0) ∧ w'.cell? ⟨gb356, 6, none⟩ = some (.int .i64 0)) (ds := [6]) #[false, false, false, false, false, false, false] (by kernel_rfl) rfl rfl ⟨(blk_cell BK356.out 0).trans rfl, (blk_cell BK356.out 1).trans rfl, (blk_cell BK356.out 2).trans rfl, (blk_cell BK356.out 3).trans rfl, (blk_cell BK356.out 4).trans rfl, (blk_cell BK356.out 5).trans rfl, (blk_cell BK356.out 6).trans rfl⟩ (fun hHeld => ?_)
            generalize w37.drew = w38 at BK355 BK356 HB HR372 hHeld ⊢
            refine pure_ (i := 0) (N := some 77) (v := ?_) (a' := ?_) #[true, false, false, false, false, false, false] rfl rfl (by kernel_rfl) (fun _ _ _ h => h) (Or.inl ⟨by rfl, ?_⟩) ?_ ?_
            rotate_left
            ·intro w'
             go_simp
             with_reducible rfl
            rotate_left
            ·simp only [Act.put, Kx.sb, Kx.sz, Kx.ss, i64_w, i32_w]
             rfl
            refine pure_ (i := 2) (N := some 79) (v := ?_) (a' := ?_) #[true, false, true, false, false, false, false] rfl rfl (by kernel_rfl) (fun _ _ _ h => h) (Or.inl ⟨by rfl, ?_⟩) ?_ ?_
            rotate_left
            ·intro w'
             go_simp
             with_reducible rfl
            rotate_left
            ·simp only [Act.put, Kx.sb, Kx.sz, Kx.ss, i64_w, i32_w]
             rfl
            refine pure_ (i := 3) (N := some 80) (v := ?_) (a' := ?_) #[true, false, true, true, false, false, false] rfl rfl (by kernel_rfl) (fun _ _ _ h => h) (Or.inl ⟨by rfl, ?_⟩) ?_ ?_
            rotate_left
            ·intro w'
             go_simp
             with_reducible rfl
            rotate_left
            ·simp only [Act.put, Kx.sb, Kx.sz, Kx.ss, i64_w, i32_w]
             rfl
            refine take_ (i := 1) (N := some 78) (v := ?_) (a' := ?_) #[true, true, true, true, false, false, false] rfl rfl (by kernel_rfl) (fun _ _ _ h => h) (Or.inl ⟨by rfl, ?_⟩) hHeld ?_ ?_
            rotate_left
            ·rintro w' ⟨s0, s1, s2, s3, s4, s5, s6⟩
             go_simp
             with_reducible rfl
            rotate_left
            ·simp only [Act.put, Kx.sb, Kx.sz, Kx.ss, i64_w, i32_w]
             rfl
            refine one_ (i := 4) (N := some 81) #[true, true, true, true, true, false, false] rfl rfl (by kernel_rfl) (by decide) (fun K hK => ?_)
            refine Kd.R_append_rows_step (Kd.int .u8) (w0 := w) w.heap.size (by rfl) (.tmp 78) (.tmp 80) 27 5 (.int .u8 0) 1 rfl Try.underlying27 info5 rfl (by decide) (by omega) (.slice none 0 0) ([] : List Int) (l1.drop 2) _ _ _ (fun _ => True) (fun _ => False) rfl rfl ?aO ?aR (fun _ _ h => h) (fun _ h => h.elim) ?aF ?aB ?aS ?aL ?_
            (case aR => first | (rw [← show (l1.drop 2).length = (l1.length - 2) from List.length_drop]; repeat (first | exact (Kd.C_below HR372.out HB.out) | (with_reducible refine Kd.C_alloc ?_ _) | (with_reducible refine Kd.C_drewN ?_ _) | (with_reducible refine Kd.C_drew ?_))) | (repeat (first | exact (Kd.C_below HR372.out HB.out) | (with_reducible refine Kd.C_alloc ?_ _) | (with_reducible refine Kd.C_drewN ?_ _) | (with_reducible refine Kd.C_drew ?_))))
            (case aB => exact (by repeat (first | (with_reducible first | exact HB.out | apply below_alloc | apply pw_below_drewN | apply below_drew1 | refine below_set ?_ GE355.out | refine below_set ?_ GE356.out) | exact HB.out)))
            (case aF => exact (fun _ _ => trivial))
            (case aO => exact ((Kd.R_nil _ _ _ _ (fun _ => True))))
            (case aS => exact (below_size (by repeat (first | (with_reducible first | exact HB.out | apply below_alloc | apply pw_below_drewN | apply below_drew1 | refine below_set ?_ GE355.out | refine below_set ?_ GE356.out) | exact HB.out))))
            (case aL => have := LMc34.out; have hlx_ := (show (l1.drop 2).length = (l1.length - 2) from List.length_drop); omega)
            intro v374 w40 ho hb hg hat
            rw [← Ny373.out] at ho
            have n0_ := Aside0.mk (blk_grown (g := gb355) (o := .cells #[.int .i64 0, .int .i64 0, .int .i64 0, .slice none 0 0, .int .i64 0, .int .i64 0, .int .i64 0] 38 (0, 0)) (by (with_reducible repeat (first | refine blk_drewN ?_ _ | refine blk_drew ?_ | refine blk_alloc ?_ _)); exact BK355.out) hg (by simp [Value.ownBlock]))
            have n1_ := Aside0.mk (blk_grown (g := gb356) (o := .cells #[.int .i64 a0, .int .i64 (wrap64 (rd l1 0)), .int .i64 (wrap64 (rd l1 1)), .slice none 0 0, .int .i64 0, .int .i64 0, .int .i64 0] 38 (0, 0)) (by (with_reducible repeat (first | refine blk_drewN ?_ _ | refine blk_drew ?_ | refine blk_alloc ?_ _)); exact BK356.out) hg (by simp [Value.ownBlock]))
            have n2_ := Aside0.mk (hb)
            have n3_ := Aside0.mk (ho)
            clear BK355
            clear BK356
            clear HB
            have BK355 := n0_
            have BK356 := n1_
            have HB := n2_
            have HO375 := n3_
            clear n0_ n1_ n2_ n3_
            clear ho hb hg hat
            obtain ⟨Ao41, co41, eo41⟩ := Kd.R_slice HO375.out
            (first | subst eo41 | (injection eo41 with f1_ f2_ f3_; have f4_ := f1_.symm; have f5_ := f3_.symm; clear f1_ f2_ f3_; subst f4_; subst f5_))
            refine hK.out _ _ ⟨(blk_cell BK356.out 0).trans rfl, (blk_cell BK356.out 1).trans rfl, (blk_cell BK356.out 2).trans rfl, (blk_cell BK356.out 3).trans rfl, (blk_cell BK356.out 4).trans rfl, (blk_cell BK356.out 5).trans rfl, (blk_cell BK356.out 6).trans rfl⟩ (fun hHeld => ?_)
            clear hK K
            refine norm_ (a' := ?_) ?_ ?_
            rotate_left
            ·show Act.put _ (some 81) _ = _
             simp only [Act.put, Kx.sb, Kx.sz, Kx.ss, i64_w, i32_w]
             rfl
            refine pure_ (i := 5) (N := some 82) (v := ?_) (a' := ?_) #[true, true, true, true, true, true, false] rfl rfl (by kernel_rfl) (fun _ _ _ h => h) (Or.inl ⟨by rfl, ?_⟩) ?_ ?_
            rotate_left
            ·intro w'
             go_simp
             with_reducible rfl
            rotate_left
            ·simp only [Act.put, Kx.sb, Kx.sz, Kx.ss, i64_w, i32_w]
             rfl
            refine last_ (i := 6) (N := none) #[true, true, true, true, true, true, true] rfl rfl (by kernel_rfl) (by decide) (fun K hK => ?_)
            have hs42 : w40.cell? ⟨gb356, 3, none⟩ = some (.slice none 0 0) := (blk_cell BK356.out 3).trans rfl
            have hfs42 := blk_frozen BK356.out 3
            have hns42_0 := NB355_356.out
            have hms42_0 := NB356_355.out
            refine skip_ (w1 := ?_) (by rfl) rfl ?_ ?_
            rotate_left
            ·go_simp
             rfl
            refine hK.out _ _ ?_
            clear hK K
            refine done_ (by kernel_rfl) ?_
            have hcz43_0 : w40.cell? ⟨gb356, 0, none⟩ = some (.int .i64 a0) := (blk_cell BK356.out 0).trans rfl
            have hcz43_1 : w40.cell? ⟨gb356, 1, none⟩ = some (.int .i64 (wrap64 (rd l1 0))) := (blk_cell BK356.out 1).trans rfl
            have hcz43_2 : w40.cell? ⟨gb356, 2, none⟩ = some (.int .i64 (wrap64 (rd l1 1))) := (blk_cell BK356.out 2).trans rfl
            have hcz43_3 : w40.cell? ⟨gb356, 3, none⟩ = some (.slice none 0 0) := (blk_cell BK356.out 3).trans rfl
            have hcz43_4 : w40.cell? ⟨gb356, 4, none⟩ = some (.int .i64 0) := (blk_cell BK356.out 4).trans rfl
            have hcz43_5 : w40.cell? ⟨gb356, 5, none⟩ = some (.int .i64 0) := (blk_cell BK356.out 5).trans rfl
            have hcz43_6 : w40.cell? ⟨gb356, 6, none⟩ = some (.int .i64 0) := (blk_cell BK356.out 6).trans rfl
            have hfz43_0 := blk_frozen BK356.out 0
            have hfz43_1 := blk_frozen BK356.out 1
            have hfz43_2 := blk_frozen BK356.out 2
            have hfz43_3 := blk_frozen BK356.out 3
            have hfz43_4 := blk_frozen BK356.out 4
            have hfz43_5 := blk_frozen BK356.out 5
            have hfz43_6 := blk_frozen BK356.out 6
            have hcz44_0 : w40.cell? ⟨gb355, 0, none⟩ = some (.int .i64 0) := (blk_cell BK355.out 0).trans rfl
            have hcz44_1 : w40.cell? ⟨gb355, 1, none⟩ = some (.int .i64 0) := (blk_cell BK355.out 1).trans rfl
            have hcz44_2 : w40.cell? ⟨gb355, 2, none⟩ = some (.int .i64 0) := (blk_cell BK355.out 2).trans rfl
            have hcz44_3 : w40.cell? ⟨gb355, 3, none⟩ = some (.slice none 0 0) := (blk_cell BK355.out 3).trans rfl
            have hcz44_4 : w40.cell? ⟨gb355, 4, none⟩ = some (.int .i64 0) := (blk_cell BK355.out 4).trans rfl
            have hcz44_5 : w40.cell? ⟨gb355, 5, none⟩ = some (.int .i64 0) := (blk_cell BK355.out 5).trans rfl
            have hcz44_6 : w40.cell? ⟨gb355, 6, none⟩ = some (.int .i64 0) := (blk_cell BK355.out 6).trans rfl
            have hfz44_0 := blk_frozen BK355.out 0
            have hfz44_1 := blk_frozen BK355.out 1
            have hfz44_2 := blk_frozen BK355.out 2
            have hfz44_3 := blk_frozen BK355.out 3
            have hfz44_4 := blk_frozen BK355.out 4
            have hfz44_5 := blk_frozen BK355.out 5
            have hfz44_6 := blk_frozen BK355.out 6
            try go_wp2
            refine bodyPost_ret (results_cell_row rfl _ _ gb355 38 #[.int .i64 a0, .int .i64 (wrap64 (rd l1 0)), .int .i64 (wrap64 (rd l1 1)), .slice Ao41 y373.length co41, .int .i64 0, .int .i64 0, .int .i64 0] (0, 0) _ rfl (by (with_reducible repeat (first | refine blk_drewN ?_ _ | refine blk_drew ?_ | refine blk_alloc ?_ _)); refine blk_put (cs := #[.int .i64 a0, .int .i64 (wrap64 (rd l1 0)), .int .i64 (wrap64 (rd l1 1)), .slice Ao41 y373.length co41, .int .i64 0, .int .i64 0, .int .i64 0]) ?_ 6 _ rfl; (with_reducible repeat (first | refine blk_drewN ?_ _ | refine blk_drew ?_ | refine blk_alloc ?_ _)); refine blk_put (cs := #[.int .i64 a0, .int .i64 (wrap64 (rd l1 0)), .int .i64 (wrap64 (rd l1 1)), .slice Ao41 y373.length co41, .int .i64 0, .int .i64 0, .int .i64 0]) ?_ 5 _ rfl; (with_reducible repeat (first | refine blk_drewN ?_ _ | refine blk_drew ?_ | refine blk_alloc ?_ _)); refine blk_put (cs := #[.int .i64 a0, .int .i64 (wrap64 (rd l1 0)), .int .i64 (wrap64 (rd l1 1)), .slice Ao41 y373.length co41, .int .i64 0, .int .i64 0, .int .i64 0]) ?_ 4 _ rfl; (with_reducible repeat (first | refine blk_drewN ?_ _ | refine blk_drew ?_ | refine blk_alloc ?_ _)); refine blk_put (cs := #[.int .i64 a0, .int .i64 (wrap64 (rd l1 0)), .int .i64 (wrap64 (rd l1 1)), .slice none 0 0, .int .i64 0, .int .i64 0, .int .i64 0]) ?_ 3 _ rfl; (with_reducible repeat (first | refine blk_drewN ?_ _ | refine blk_drew ?_ | refine blk_alloc ?_ _)); refine blk_put (cs := #[.int .i64 a0, .int .i64 (wrap64 (rd l1 0)), .int .i64 0, .slice none 0 0, .int .i64 0, .int .i64 0, .int .i64 0]) ?_ 2 _ rfl; (with_reducible repeat (first | refine blk_drewN ?_ _ | refine blk_drew ?_ | refine blk_alloc ?_ _)); refine blk_put (cs := #[.int .i64 a0, .int .i64 0, .int .i64 0, .slice none 0 0, .int .i64 0, .int .i64 0, .int .i64 0]) ?_ 1 _ rfl; (with_reducible repeat (first | refine blk_drewN ?_ _ | refine blk_drew ?_ | refine blk_alloc ?_ _)); refine blk_put (cs := #[.int .i64 0, .int .i64 0, .int .i64 0, .slice none 0 0, .int .i64 0, .int .i64 0, .int .i64 0]) ?_ 0 _ rfl; (with_reducible repeat (first | refine blk_drewN ?_ _ | refine blk_drew ?_ | refine blk_alloc ?_ _)); refine blk_far ?_ NB355_356.out _; (with_reducible repeat (first | refine blk_drewN ?_ _ | refine blk_drew ?_ | refine blk_alloc ?_ _)); exact BK355.out) Try.underlying38 rfl (by kernel_rfl)) rfl ?_
            exact ⟨_, by first | rfl | (simp [errW_none, errW_some] <;> rfl) | (simp [*, errW_none, errW_some] <;> rfl), by (with_reducible repeat (first | apply Kd.R_alloc | apply Kd.R_drewN | apply Kd.R_drew)); exact Kd.R_mono (Kd.R_far (p := ⟨gb355, 6, none⟩) (Kd.R_far (p := ⟨gb355, 5, none⟩) (Kd.R_far (p := ⟨gb355, 4, none⟩) (Kd.R_far (p := ⟨gb355, 3, none⟩) (Kd.R_far (p := ⟨gb355, 2, none⟩) (Kd.R_far (p := ⟨gb355, 1, none⟩) (Kd.R_far (p := ⟨gb355, 0, none⟩) (Kd.R_far (p := ⟨gb356, 3, none⟩) (Kd.R_types (Kd.R_types HO375.out BK356.out (by decide)) BK355.out (by decide)) (fun _ hk => hk.1.2) (.slice Ao41 y373.length co41)) (fun _ hk => hk.2) (.int .i64 a0)) (fun _ hk => hk.2) (.int .i64 (wrap64 (rd l1 0)))) (fun _ hk => hk.2) (.int .i64 (wrap64 (rd l1 1)))) (fun _ hk => hk.2) (.slice Ao41 y373.length co41)) (fun _ hk => hk.2) (.int .i64 0)) (fun _ hk => hk.2) (.int .i64 0)) (fun _ hk => hk.2) (.int .i64 0)) (fun _ hk => trivial), by repeat (first | (with_reducible first | exact HB.out | apply below_alloc | apply pw_below_drewN | apply below_drew1 | refine below_set ?_ GE355.out | refine below_set ?_ GE356.out) | exact HB.out)⟩
           ·rw [if_neg c34] at H
            exact absurd H (by simp)
          ·rw [if_neg c33] at H
           exact absurd H (by simp)
         ·rw [if_neg c32] at H
          exact absurd H (by simp)
        ·rw [if_neg c31] at H
         exact absurd H (by simp)
       ·rw [if_neg c30] at H
        have c30b0 : decide (2 ≤ (l1.length : Int)) = false := decide_eq_false c30
        have c30b1 : decide (2 ≤ l1.length) = false := decide_eq_false (by omega)
        clear c30
        simp only [Option.some.injEq, Prod.mk.injEq] at H
        obtain ⟨rfl, rfl, rfl, rfl, rfl, rfl, rfl⟩ := H
        have hnb45 := NB356_355.out
        have hnc45 := NB355_356.out
        have hcz46_0 : wc.cell? ⟨gb356, 0, none⟩ = some (.int .i64 a0) := (blk_cell BK356.out 0).trans rfl
        have hcz46_1 : wc.cell? ⟨gb356, 1, none⟩ = some (.int .i64 0) := (blk_cell BK356.out 1).trans rfl
        have hcz46_2 : wc.cell? ⟨gb356, 2, none⟩ = some (.int .i64 0) := (blk_cell BK356.out 2).trans rfl
        have hcz46_3 : wc.cell? ⟨gb356, 3, none⟩ = some (.slice none 0 0) := (blk_cell BK356.out 3).trans rfl
        have hcz46_4 : wc.cell? ⟨gb356, 4, none⟩ = some (.int .i64 0) := (blk_cell BK356.out 4).trans rfl
        have hcz46_5 : wc.cell? ⟨gb356, 5, none⟩ = some (.int .i64 0) := (blk_cell BK356.out 5).trans rfl
        have hcz46_6 : wc.cell? ⟨gb356, 6, none⟩ = some (.int .i64 0) := (blk_cell BK356.out 6).trans rfl
        have hfz46_0 := blk_frozen BK356.out 0
        have hfz46_1 := blk_frozen BK356.out 1
        have hfz46_2 := blk_frozen BK356.out 2
        have hfz46_3 := blk_frozen BK356.out 3
        have hfz46_4 := blk_frozen BK356.out 4
        have hfz46_5 := blk_frozen BK356.out 5
        have hfz46_6 := blk_frozen BK356.out 6
        have hcz47_0 : wc.cell? ⟨gb355, 0, none⟩ = some (.int .i64 0) := (blk_cell BK355.out 0).trans rfl
        have hcz47_1 : wc.cell? ⟨gb355, 1, none⟩ = some (.int .i64 0) := (blk_cell BK355.out 1).trans rfl
        have hcz47_2 : wc.cell? ⟨gb355, 2, none⟩ = some (.int .i64 0) := (blk_cell BK355.out 2).trans rfl
        have hcz47_3 : wc.cell? ⟨gb355, 3, none⟩ = some (.slice none 0 0) := (blk_cell BK355.out 3).trans rfl
        have hcz47_4 : wc.cell? ⟨gb355, 4, none⟩ = some (.int .i64 0) := (blk_cell BK355.out 4).trans rfl
        have hcz47_5 : wc.cell? ⟨gb355, 5, none⟩ = some (.int .i64 0) := (blk_cell BK355.out 5).trans rfl
        have hcz47_6 : wc.cell? ⟨gb355, 6, none⟩ = some (.int .i64 0) := (blk_cell BK355.out 6).trans rfl
        have hfz47_0 := blk_frozen BK355.out 0
        have hfz47_1 := blk_frozen BK355.out 1
        have hfz47_2 := blk_frozen BK355.out 2
        have hfz47_3 := blk_frozen BK355.out 3
        have hfz47_4 := blk_frozen BK355.out 4
        have hfz47_5 := blk_frozen BK355.out 5
        have hfz47_6 := blk_frozen BK355.out 6
        go_wp2
        refine bodyPost_ret (results_cell_row rfl _ _ gb355 38 #[.int .i64 a0, .int .i64 0, .int .i64 0, .slice none 0 0, .int .i64 0, .int .i64 0, .int .i64 0] (0, 0) _ rfl (by (with_reducible repeat (first | refine blk_drewN ?_ _ | refine blk_drew ?_ | refine blk_alloc ?_ _)); refine blk_put (cs := #[.int .i64 a0, .int .i64 0, .int .i64 0, .slice none 0 0, .int .i64 0, .int .i64 0, .int .i64 0]) ?_ 6 _ rfl; (with_reducible repeat (first | refine blk_drewN ?_ _ | refine blk_drew ?_ | refine blk_alloc ?_ _)); refine blk_put (cs := #[.int .i64 a0, .int .i64 0, .int .i64 0, .slice none 0 0, .int .i64 0, .int .i64 0, .int .i64 0]) ?_ 5 _ rfl; (with_reducible repeat (first | refine blk_drewN ?_ _ | refine blk_drew ?_ | refine blk_alloc ?_ _)); refine blk_put (cs := #[.int .i64 a0, .int .i64 0, .int .i64 0, .slice none 0 0, .int .i64 0, .int .i64 0, .int .i64 0]) ?_ 4 _ rfl; (with_reducible repeat (first | refine blk_drewN ?_ _ | refine blk_drew ?_ | refine blk_alloc ?_ _)); refine blk_put (cs := #[.int .i64 a0, .int .i64 0, .int .i64 0, .slice none 0 0, .int .i64 0, .int .i64 0, .int .i64 0]) ?_ 3 _ rfl; (with_reducible repeat (first | refine blk_drewN ?_ _ | refine blk_drew ?_ | refine blk_alloc ?_ _)); refine blk_put (cs := #[.int .i64 a0, .int .i64 0, .int .i64 0, .slice none 0 0, .int .i64 0, .int .i64 0, .int .i64 0]) ?_ 2 _ rfl; (with_reducible repeat (first | refine blk_drewN ?_ _ | refine blk_drew ?_ | refine blk_alloc ?_ _)); refine blk_put (cs := #[.int .i64 a0, .int .i64 0, .int .i64 0, .slice none 0 0, .int .i64 0, .int .i64 0, .int .i64 0]) ?_ 1 _ rfl; (with_reducible repeat (first | refine blk_drewN ?_ _ | refine blk_drew ?_ | refine blk_alloc ?_ _)); refine blk_put (cs := #[.int .i64 0, .int .i64 0, .int .i64 0, .slice none 0 0, .int .i64 0, .int .i64 0, .int .i64 0]) ?_ 0 _ rfl; (with_reducible repeat (first | refine blk_drewN ?_ _ | refine blk_drew ?_ | refine blk_alloc ?_ _)); exact BK355.out) Try.underlying38 rfl (by kernel_rfl)) rfl ?_
        exact ⟨_, by first | rfl | (simp [errW_none, errW_some] <;> rfl) | (simp [*, errW_none, errW_some] <;> rfl), by first | exact Kd.R_nil _ _ _ _ _ | exact Kd.N_nil _ _ _ _ _ | exact Kd.V_nil _ _ _ _ _ | exact Kd.Q_nil _ _ _ _ _ | exact Kd.S_nil _ _ _ _ _, by repeat (first | (with_reducible first | exact HB.out | apply below_alloc | apply pw_below_drewN | apply below_drew1 | refine below_set ?_ GE355.out | refine below_set ?_ GE356.out) | exact HB.out)⟩
def waggonerref16_may.f (a0 : Int) (l1 : List Int) : Option (Int × Int × Int × List Int × Int × Int × Int) := if Pl.byteB l1 = true ∧ l1.length < 1073741824 then some (Pl.mayS a0 l1) else none
theorem waggonerref16_may.closes {a0 : Int} {l1 : List Int} {r : Int × Int × Int × List Int × Int × Int × Int} (h : waggonerref16_may.f a0 l1 = some r) : waggonerref16_may_p.f 2 a0 l1 = some r := by
 unfold waggonerref16_may.f at h
 split at h
 case isFalse => cases h
 rename_i hh
 obtain ⟨hb, hl⟩ := hh
 rw [← h]
 unfold waggonerref16_may_p.f
 have h0 : (if a0 = 1 then (waggonerref16_may_p.j0 2 a0 l1 ((l1.length : Int) == 9) a0 0 0 0 0 0) else (waggonerref16_may_p.j0 2 a0 l1 false a0 0 0 0 0 0)) = waggonerref16_may_p.j0 2 a0 l1 (decide (a0 = 1 ∧ l1.length = 9)) a0 0 0 0 0 0 := by
  by_cases h1 : a0 = 1
  ·rw [if_pos h1]
   congr 1
   rw [Bool.eq_iff_iff, beq_iff_eq, decide_eq_true_eq]; omega
  ·rw [if_neg h1, decide_eq_false (fun e => h1 e.1)]
 rw [h0]
 simp only [waggonerref16_may_p.j0]
 rw [Pl.mayS]
 by_cases c1 : a0 = 1 ∧ l1.length = 9
 ·have q0 := Pl.byN_lt hb 0 1
  have q1 := Pl.byN_lt hb 1 4
  have q2 := Pl.byN_lt hb 5 4
  rw [if_pos c1, decide_eq_true c1, if_pos rfl]
  unfold waggonerref01_Unpack.f
  rw [if_pos ⟨hb, by omega, by decide⟩, show Pl.fb (⟨#[98, 119, 119]⟩ : ByteArray) = [98, 119, 119] from by kernel_rfl, Pl.unpack_bww c1.2, Option.bind_some]
  dsimp only
  rw [if_pos (by simp), if_pos (by simp), if_pos (by simp)]
  rw [show rd [Pl.byN l1 0 1, Pl.byN l1 1 4, Pl.byN l1 5 4] 0 = Pl.byN l1 0 1 from rfl, show rd [Pl.byN l1 0 1, Pl.byN l1 1 4, Pl.byN l1 5 4] 1 = Pl.byN l1 1 4 from rfl, show rd [Pl.byN l1 0 1, Pl.byN l1 1 4, Pl.byN l1 5 4] 2 = Pl.byN l1 5 4 from rfl, show wrap64 (Pl.byN l1 0 1) = Pl.byN l1 0 1 by unfold wrap64; omega, show wrap64 (Pl.byN l1 1 4) = Pl.byN l1 1 4 by unfold wrap64; omega, show wrap64 (Pl.byN l1 5 4) = Pl.byN l1 5 4 by unfold wrap64; omega, c1.1]
 rw [if_neg c1, decide_eq_false c1, if_neg (by decide)]
 have h5 : (if a0 = 5 then (waggonerref16_may_p.j1 1 l1 ((l1.length : Int) == 6) a0 0 0 0 0 0) else (waggonerref16_may_p.j1 1 l1 false a0 0 0 0 0 0)) = waggonerref16_may_p.j1 1 l1 (decide (a0 = 5 ∧ l1.length = 6)) a0 0 0 0 0 0 := by
  by_cases h1 : a0 = 5
  ·rw [if_pos h1]
   congr 1
   rw [Bool.eq_iff_iff, beq_iff_eq, decide_eq_true_eq]; omega
  ·rw [if_neg h1, decide_eq_false (fun e => h1 e.1)]
 rw [h5]
 simp only [waggonerref16_may_p.j1]
 by_cases c5 : a0 = 5 ∧ l1.length = 6
 ·have q0 := Pl.byN_lt hb 0 2
  have q1 := Pl.byN_lt hb 2 4
  rw [if_pos c5, decide_eq_true c5, if_pos rfl]
  unfold waggonerref01_Unpack.f
  rw [if_pos ⟨hb, by omega, by decide⟩, show Pl.fb (⟨#[104, 119]⟩ : ByteArray) = [104, 119] from by kernel_rfl, Pl.unpack_hw c5.2, Option.bind_some]
  dsimp only
  rw [if_pos (by simp), if_pos (by simp)]
  rw [show rd [Pl.byN l1 0 2, Pl.byN l1 2 4] 0 = Pl.byN l1 0 2 from rfl, show rd [Pl.byN l1 0 2, Pl.byN l1 2 4] 1 = Pl.byN l1 2 4 from rfl, show wrap64 (Pl.byN l1 0 2) = Pl.byN l1 0 2 by unfold wrap64; omega, show wrap64 (Pl.byN l1 2 4) = Pl.byN l1 2 4 by unfold wrap64; omega, c5.1]
 rw [if_neg c5, decide_eq_false c5, if_neg (by decide)]
 by_cases c2 : 2 ≤ l1.length
 ·have g0 : rd l1 0 = l1.getD 0 0 := by simp [rd]
  have g1 : rd l1 1 = l1.getD 1 0 := by simp [rd]
  have m0 := Pl.byteB_iff.1 hb l1[0] (List.getElem_mem _)
  have m1 := Pl.byteB_iff.1 hb l1[1] (List.getElem_mem _)
  have e0 : l1.getD 0 0 = l1[0] := by rw [List.getD_eq_getElem?_getD, List.getElem?_eq_getElem (show 0 < l1.length by omega), Option.getD_some]
  have e1 : l1.getD 1 0 = l1[1] := by rw [List.getD_eq_getElem?_getD, List.getElem?_eq_getElem (show 1 < l1.length by omega), Option.getD_some]
  rw [if_pos c2, if_pos (by omega), if_pos (by omega), if_pos (by omega), if_pos (by omega), if_pos (by rw [List.length_drop, List.length_nil]; omega), g0, g1, show wrap64 (l1.getD 0 0) = l1.getD 0 0 by rw [e0]; unfold wrap64; omega, show wrap64 (l1.getD 1 0) = l1.getD 1 0 by rw [e1]; unfold wrap64; omega, List.nil_append]
 ·rw [if_neg c2, if_neg (by omega)]
theorem waggonerref16_may.calls (a0 : Int) (A1 : Option Addr) (c1 : Nat) (l1 : List Int) (r1 : Int) (r2 : Int) (r3 : Int) (r4 : List Int) (r5 : Int) (r6 : Int) (r7 : Int) (w : World) (hr1 : Kd.C (Kd.int .u8) w A1 l1.length l1) (hc1 : l1.length ≤ c1) (h : waggonerref16_may.f a0 l1 = some (r1, r2, r3, r4, r5, r6, r7)) :
  Calls Try.prog 48 #[.int .i64 a0, .slice A1 l1.length c1] w fun e w' => ∃ v3_ : Value, e = .returned (.agg #[.int .i64 r1, .int .i64 r2, .int .i64 r3, v3_, .int .i64 r5, .int .i64 r6, .int .i64 r7]) ∧ Kd.R (Kd.int .u8) 5 w' w.heap.size (fun _ => True) v3_ r4 ∧ Below w.heap.size w w' :=
 waggonerref16_may_p.calls 2 a0 A1 c1 l1 r1 r2 r3 r4 r5 r6 r7 w hr1 hc1 (waggonerref16_may.closes h)
end Go.Proofs.Ytohkmmbmfhficaa.PT
