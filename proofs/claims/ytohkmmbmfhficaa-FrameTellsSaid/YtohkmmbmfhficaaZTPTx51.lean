/- Words and walks that this claim names, of those that the kit's print and programs of this workplace have printed. -/
import Derived.Test.YtohkmmbmfhficaaZTPTx11
import Derived.Test.YtohkmmbmfhficaaZTPTx50
namespace Go.Proofs.Ytohkmmbmfhficaa.PT
open Go.RowKit Go.Proofs.YtohkmmbmfhficaaW.PrintWords Go.Proofs.YtohkmmbmfhficaaW.PrintLast Go.Proofs.YtohkmmbmfhficaaW.PrintMore
attribute [local go_sem] max2_int min2_int max_two min_two max_three min_three max_four min_four
set_option linter.unusedVariables false
set_option linter.unusedSimpArgs false
mutual
def waggonerref16_Check_p.j0 : Nat → Bool → Int → Int → Int → List Int → Int → Int → Int → Option (Bool)
 | 0, _, _, _, _, _, _, _, _ => none
 | k + 1, x3, x270000, x270001, x270002, x270003, x270004, x270005, x270006 => if x270004 = 0 then (if x270005 = 0 then (waggonerref16_Check_p.j1 k x3 (x270006 == 0) x270000 x270001 x270002 x270003 x270004 x270005 x270006) else (waggonerref16_Check_p.j1 k x3 false x270000 x270001 x270002 x270003 x270004 x270005 x270006)) else (waggonerref16_Check_p.j1 k x3 false x270000 x270001 x270002 x270003 x270004 x270005 x270006)
def waggonerref16_Check_p.j1 : Nat → Bool → Bool → Int → Int → Int → List Int → Int → Int → Int → Option (Bool)
 | 0, _, _, _, _, _, _, _, _, _ => none
 | k + 1, x3, x4, x270000, x270001, x270002, x270003, x270004, x270005, x270006 => if x270001 = 0 then (if x270002 = 0 then (waggonerref16_Check_p.j2 k x3 x4 ((x270003.length : Int) == 0) x270000 x270001 x270002 x270003 x270004 x270005 x270006) else (waggonerref16_Check_p.j2 k x3 x4 false x270000 x270001 x270002 x270003 x270004 x270005 x270006)) else (waggonerref16_Check_p.j2 k x3 x4 false x270000 x270001 x270002 x270003 x270004 x270005 x270006)
def waggonerref16_Check_p.j2 : Nat → Bool → Bool → Bool → Int → Int → Int → List Int → Int → Int → Int → Option (Bool)
 | 0, _, _, _, _, _, _, _, _, _, _ => none
 | k + 1, x3, x4, x5, x270000, x270001, x270002, x270003, x270004, x270005, x270006 => (waggonerref16_zeros.f x270003).bind fun t270 => (if x270000 = 1 then (if x5 = true then (if x270004 ≥ 1 then (if x270004 ≤ 64 then (if x270005 ≥ 0 then (if x270006 > x270005 then (some (decide (x270006 < 2147483648))) else (some false)) else (some false)) else (some false)) else (some false)) else (some false)) else (if x270000 = 2 then (if x3 = true then (if x4 = true then (if x270002 ≤ 16 then (if (x270003.length : Int) = (wrap64 (32 * x270002)) then (some (!t270)) else (some false)) else (some false)) else (some false)) else (some false)) else (if x270000 = 3 then (waggonerref16_Check_p.j3 k x3 x4 x5 x270000 (x270000 == 3) x270000 x270001 x270002 x270003 x270004 x270005 x270006) else (waggonerref16_Check_p.j3 k x3 x4 x5 x270000 (x270000 == 4) x270000 x270001 x270002 x270003 x270004 x270005 x270006))))
def waggonerref16_Check_p.j3 : Nat → Bool → Bool → Bool → Int → Bool → Int → Int → Int → List Int → Int → Int → Int → Option (Bool)
 | 0, _, _, _, _, _, _, _, _, _, _, _, _ => none
 | k + 1, x3, x4, x5, x59, x114, x270000, x270001, x270002, x270003, x270004, x270005, x270006 => if x114 = true then (if x3 = true then (if x4 = true then (some ((x270003.length : Int) == 0)) else (some false)) else (some false)) else (if x59 = 5 then (if x5 = true then (if x270004 ≥ 1 then (if x270004 ≤ 65535 then (if x270005 ≥ 0 then (if x270005 < 4294967296 then (some (x270006 == 0)) else (some false)) else (some false)) else (some false)) else (some false)) else (some false)) else (some false))
end
def waggonerref16_Check_p.f (k : Nat) (a0_0 : Int) (a0_1 : Int) (a0_2 : Int) (l0_3 : List Int) (a0_4 : Int) (a0_5 : Int) (a0_6 : Int) : Option (Bool) := if a0_1 ≥ 0 then (if a0_1 ≤ 64 then (if a0_2 ≥ 1 then (waggonerref16_Check_p.j0 k (decide (a0_2 ≤ (wrap64 (64 - a0_1)))) a0_0 a0_1 a0_2 l0_3 a0_4 a0_5 a0_6) else (waggonerref16_Check_p.j0 k false a0_0 a0_1 a0_2 l0_3 a0_4 a0_5 a0_6)) else (waggonerref16_Check_p.j0 k false a0_0 a0_1 a0_2 l0_3 a0_4 a0_5 a0_6)) else (waggonerref16_Check_p.j0 k false a0_0 a0_1 a0_2 l0_3 a0_4 a0_5 a0_6)
set_option maxHeartbeats 8000000 in
set_option maxRecDepth 100000 in
theorem waggonerref16_Check_p.calls (k : Nat) (a0_0 : Int) (a0_1 : Int) (a0_2 : Int) (A0_3 : Option Addr) (c0_3 : Nat) (l0_3 : List Int) (a0_4 : Int) (a0_5 : Int) (a0_6 : Int) (r : Bool) (w : World) (hr0_3 : Kd.C (Kd.int .u8) w A0_3 l0_3.length l0_3) (hc0_3 : l0_3.length ≤ c0_3) (h : waggonerref16_Check_p.f k a0_0 a0_1 a0_2 l0_3 a0_4 a0_5 a0_6 = some r) :
  Calls Try.prog 25 #[.agg #[.int .i64 a0_0, .int .i64 a0_1, .int .i64 a0_2, .slice A0_3 l0_3.length c0_3, .int .i64 a0_4, .int .i64 a0_5, .int .i64 a0_6]] w fun e w' => e = .returned (.bool r) ∧ Below w.heap.size w w' := by
 have hu38 := Try.underlying38
 have HR0_3 := Aside0.mk hr0_3
 have HC0_3 := Aside0.mk hc0_3
 clear hr0_3 hc0_3
 have HB := Aside0.mk (Below.refl w.heap.size w)
 have H : (if a0_1 ≥ 0 then (if a0_1 ≤ 64 then (if a0_2 ≥ 1 then (waggonerref16_Check_p.j0 k (decide (a0_2 ≤ (wrap64 (64 - a0_1)))) a0_0 a0_1 a0_2 l0_3 a0_4 a0_5 a0_6) else (waggonerref16_Check_p.j0 k false a0_0 a0_1 a0_2 l0_3 a0_4 a0_5 a0_6)) else (waggonerref16_Check_p.j0 k false a0_0 a0_1 a0_2 l0_3 a0_4 a0_5 a0_6)) else (waggonerref16_Check_p.j0 k false a0_0 a0_1 a0_2 l0_3 a0_4 a0_5 a0_6)) = some r := h
 clear h
 have HC2 := Aside0.mk H
 clear H
 go_enter Try.func25, Try.ntmps25
 go_upto_region 1 with (first | ((with_reducible refine gate_dst (N := 1) rfl ?_); (try (refine gate_guard (by rfl) ?_; dsimp only)); refine box_event ?hg (N := 1) ?hd (cs := #[.int .i64 a0_0, .int .i64 a0_1, .int .i64 a0_2, .slice A0_3 l0_3.length c0_3, .int .i64 a0_4, .int .i64 a0_5, .int .i64 a0_6]) (t := 38) ?hr ?_; (case hd => rfl); (case hg => rfl); (case hr => first | (go_simp; done) | (go_simp; rfl)); intro gb269 hg w3 hbox hb; have n0_ := Aside0.mk (below_step (by repeat (first | (with_reducible first | exact HB.out | apply below_alloc | apply pw_below_drewN | apply below_drew1) | exact HB.out)) hb); have n1_ := Aside0.mk (hbox); have n2_ := Aside0.mk ((by rw [hg]; exact (below_size (by repeat (first | (with_reducible first | exact HB.out | apply below_alloc | apply pw_below_drewN | apply below_drew1) | exact HB.out))) : w.heap.size ≤ gb269)); have n3_ := Aside0.mk ((by rw [hg]; exact (below_size (by repeat (first | (with_reducible first | exact HB.out | apply below_alloc | apply pw_below_drewN | apply below_drew1) | exact HB.out))) : w.heap.size ≤ gb269)); clear HB; have HB := n0_; have BK269 := n1_; have GW269 := n2_; have GE269 := n3_; clear n0_ n1_ n2_ n3_; clear hb hbox hg))
 (try simp only [Act.put, Kx.sb, Kx.sz, Kx.ss])
 go_cut [3] (fun v3 wc => ∃ (kq : Nat) (x3_1 : Bool), v3 = .bool x3_1 ∧ Aside0 (waggonerref16_Check_p.j0 kq x3_1 a0_0 a0_1 a0_2 l0_3 a0_4 a0_5 a0_6 = some r) ∧ Aside0 (kq ≤ k) ∧ Aside0 (wc.heap[gb269]? = some (.cells #[.int .i64 a0_0, .int .i64 a0_1, .int .i64 a0_2, (.slice A0_3 l0_3.length c0_3), .int .i64 a0_4, .int .i64 a0_5, .int .i64 a0_6] 38 (0, 0))) ∧ Aside0 (Below w.heap.size w wc))
 case first =>
  have H := HC2.out
  clear HC2
  by_cases c4 : a0_1 ≥ 0
  ·rw [if_pos c4] at H
   have c4b0 : decide (0 ≤ a0_1) = true := decide_eq_true c4
   clear c4
   (first | rw [c4b0] | (simp only [i64_w, i32_w]; rw [c4b0]) | skip)
   by_cases c5 : a0_1 ≤ 64
   ·rw [if_pos c5] at H
    have c5b0 : decide (a0_1 ≤ 64) = true := decide_eq_true c5
    clear c5
    by_cases c6 : a0_2 ≥ 1
    ·rw [if_pos c6] at H
     have c6b0 : decide (1 ≤ a0_2) = true := decide_eq_true c6
     clear c6
     have H' := Aside0.mk H
     clear H
     have hcz7_0 : w3.cell? ⟨gb269, 0, none⟩ = some (.int .i64 a0_0) := (blk_cell BK269.out 0).trans rfl
     have hcz7_1 : w3.cell? ⟨gb269, 1, none⟩ = some (.int .i64 a0_1) := (blk_cell BK269.out 1).trans rfl
     have hcz7_2 : w3.cell? ⟨gb269, 2, none⟩ = some (.int .i64 a0_2) := (blk_cell BK269.out 2).trans rfl
     have hcz7_3 : w3.cell? ⟨gb269, 3, none⟩ = some (.slice A0_3 l0_3.length c0_3) := (blk_cell BK269.out 3).trans rfl
     have hcz7_4 : w3.cell? ⟨gb269, 4, none⟩ = some (.int .i64 a0_4) := (blk_cell BK269.out 4).trans rfl
     have hcz7_5 : w3.cell? ⟨gb269, 5, none⟩ = some (.int .i64 a0_5) := (blk_cell BK269.out 5).trans rfl
     have hcz7_6 : w3.cell? ⟨gb269, 6, none⟩ = some (.int .i64 a0_6) := (blk_cell BK269.out 6).trans rfl
     have hfz7_0 := blk_frozen BK269.out 0
     have hfz7_1 := blk_frozen BK269.out 1
     have hfz7_2 := blk_frozen BK269.out 2
     have hfz7_3 := blk_frozen BK269.out 3
     have hfz7_4 := blk_frozen BK269.out 4
     have hfz7_5 := blk_frozen BK269.out 5
     have hfz7_6 := blk_frozen BK269.out 6
     go_wp2
     go_meet
     case rel => exact ⟨_, (decide (a0_2 ≤ (wrap64 (64 - a0_1)))), (by first | rfl | (simp; done) | (simp [*]; done)), H', ⟨by first | omega | exact Nat.le_refl _⟩, ⟨by (with_reducible repeat (first | refine blk_drewN ?_ _ | refine blk_drew ?_ | refine blk_alloc ?_ _)); exact BK269.out⟩, ⟨by repeat (first | (with_reducible first | exact HB.out | apply below_alloc | apply pw_below_drewN | apply below_drew1 | refine below_set ?_ GE269.out) | exact HB.out)⟩⟩
    ·rw [if_neg c6] at H
     have c6b0 : decide (1 ≤ a0_2) = false := decide_eq_false c6
     clear c6
     have H' := Aside0.mk H
     clear H
     have hcz8_0 : w3.cell? ⟨gb269, 0, none⟩ = some (.int .i64 a0_0) := (blk_cell BK269.out 0).trans rfl
     have hcz8_1 : w3.cell? ⟨gb269, 1, none⟩ = some (.int .i64 a0_1) := (blk_cell BK269.out 1).trans rfl
     have hcz8_2 : w3.cell? ⟨gb269, 2, none⟩ = some (.int .i64 a0_2) := (blk_cell BK269.out 2).trans rfl
     have hcz8_3 : w3.cell? ⟨gb269, 3, none⟩ = some (.slice A0_3 l0_3.length c0_3) := (blk_cell BK269.out 3).trans rfl
     have hcz8_4 : w3.cell? ⟨gb269, 4, none⟩ = some (.int .i64 a0_4) := (blk_cell BK269.out 4).trans rfl
     have hcz8_5 : w3.cell? ⟨gb269, 5, none⟩ = some (.int .i64 a0_5) := (blk_cell BK269.out 5).trans rfl
     have hcz8_6 : w3.cell? ⟨gb269, 6, none⟩ = some (.int .i64 a0_6) := (blk_cell BK269.out 6).trans rfl
     have hfz8_0 := blk_frozen BK269.out 0
     have hfz8_1 := blk_frozen BK269.out 1
     have hfz8_2 := blk_frozen BK269.out 2
     have hfz8_3 := blk_frozen BK269.out 3
     have hfz8_4 := blk_frozen BK269.out 4
     have hfz8_5 := blk_frozen BK269.out 5
     have hfz8_6 := blk_frozen BK269.out 6
     go_wp2
     go_meet
     case rel => exact ⟨_, (false), (by first | rfl | (simp; done) | (simp [*]; done)), H', ⟨by first | omega | exact Nat.le_refl _⟩, ⟨by (with_reducible repeat (first | refine blk_drewN ?_ _ | refine blk_drew ?_ | refine blk_alloc ?_ _)); exact BK269.out⟩, ⟨by repeat (first | (with_reducible first | exact HB.out | apply below_alloc | apply pw_below_drewN | apply below_drew1 | refine below_set ?_ GE269.out) | exact HB.out)⟩⟩
   ·rw [if_neg c5] at H
    have c5b0 : decide (a0_1 ≤ 64) = false := decide_eq_false c5
    clear c5
    have H' := Aside0.mk H
    clear H
    have hcz9_0 : w3.cell? ⟨gb269, 0, none⟩ = some (.int .i64 a0_0) := (blk_cell BK269.out 0).trans rfl
    have hcz9_1 : w3.cell? ⟨gb269, 1, none⟩ = some (.int .i64 a0_1) := (blk_cell BK269.out 1).trans rfl
    have hcz9_2 : w3.cell? ⟨gb269, 2, none⟩ = some (.int .i64 a0_2) := (blk_cell BK269.out 2).trans rfl
    have hcz9_3 : w3.cell? ⟨gb269, 3, none⟩ = some (.slice A0_3 l0_3.length c0_3) := (blk_cell BK269.out 3).trans rfl
    have hcz9_4 : w3.cell? ⟨gb269, 4, none⟩ = some (.int .i64 a0_4) := (blk_cell BK269.out 4).trans rfl
    have hcz9_5 : w3.cell? ⟨gb269, 5, none⟩ = some (.int .i64 a0_5) := (blk_cell BK269.out 5).trans rfl
    have hcz9_6 : w3.cell? ⟨gb269, 6, none⟩ = some (.int .i64 a0_6) := (blk_cell BK269.out 6).trans rfl
    have hfz9_0 := blk_frozen BK269.out 0
    have hfz9_1 := blk_frozen BK269.out 1
    have hfz9_2 := blk_frozen BK269.out 2
    have hfz9_3 := blk_frozen BK269.out 3
    have hfz9_4 := blk_frozen BK269.out 4
    have hfz9_5 := blk_frozen BK269.out 5
    have hfz9_6 := blk_frozen BK269.out 6
    go_wp2
    go_meet
    case rel => exact ⟨_, (false), (by first | rfl | (simp; done) | (simp [*]; done)), H', ⟨by first | omega | exact Nat.le_refl _⟩, ⟨by (with_reducible repeat (first | refine blk_drewN ?_ _ | refine blk_drew ?_ | refine blk_alloc ?_ _)); exact BK269.out⟩, ⟨by repeat (first | (with_reducible first | exact HB.out | apply below_alloc | apply pw_below_drewN | apply below_drew1 | refine below_set ?_ GE269.out) | exact HB.out)⟩⟩
  ·rw [if_neg c4] at H
   have c4b0 : decide (0 ≤ a0_1) = false := decide_eq_false c4
   clear c4
   (first | rw [c4b0] | (simp only [i64_w, i32_w]; rw [c4b0]) | skip)
   have H' := Aside0.mk H
   clear H
   have hcz10_0 : w3.cell? ⟨gb269, 0, none⟩ = some (.int .i64 a0_0) := (blk_cell BK269.out 0).trans rfl
   have hcz10_1 : w3.cell? ⟨gb269, 1, none⟩ = some (.int .i64 a0_1) := (blk_cell BK269.out 1).trans rfl
   have hcz10_2 : w3.cell? ⟨gb269, 2, none⟩ = some (.int .i64 a0_2) := (blk_cell BK269.out 2).trans rfl
   have hcz10_3 : w3.cell? ⟨gb269, 3, none⟩ = some (.slice A0_3 l0_3.length c0_3) := (blk_cell BK269.out 3).trans rfl
   have hcz10_4 : w3.cell? ⟨gb269, 4, none⟩ = some (.int .i64 a0_4) := (blk_cell BK269.out 4).trans rfl
   have hcz10_5 : w3.cell? ⟨gb269, 5, none⟩ = some (.int .i64 a0_5) := (blk_cell BK269.out 5).trans rfl
   have hcz10_6 : w3.cell? ⟨gb269, 6, none⟩ = some (.int .i64 a0_6) := (blk_cell BK269.out 6).trans rfl
   have hfz10_0 := blk_frozen BK269.out 0
   have hfz10_1 := blk_frozen BK269.out 1
   have hfz10_2 := blk_frozen BK269.out 2
   have hfz10_3 := blk_frozen BK269.out 3
   have hfz10_4 := blk_frozen BK269.out 4
   have hfz10_5 := blk_frozen BK269.out 5
   have hfz10_6 := blk_frozen BK269.out 6
   go_wp2
   go_meet
   case rel => exact ⟨_, (false), (by first | rfl | (simp; done) | (simp [*]; done)), H', ⟨by first | omega | exact Nat.le_refl _⟩, ⟨by (with_reducible repeat (first | refine blk_drewN ?_ _ | refine blk_drew ?_ | refine blk_alloc ?_ _)); exact BK269.out⟩, ⟨by repeat (first | (with_reducible first | exact HB.out | apply below_alloc | apply pw_below_drewN | apply below_drew1 | refine below_set ?_ GE269.out) | exact HB.out)⟩⟩
 case rest =>
  clear HC2
  try clear c2
  try clear p2
  try clear c4
  try clear c4b0
  try clear c5
  try clear c5b0
  try clear c6
  try clear c6b0
  try clear p6
  try clear hcz10_0
  try clear hcz10_1
  try clear hcz10_2
  try clear hcz10_3
  try clear hcz10_4
  try clear hcz10_5
  try clear hcz10_6
  try clear hcz7_0
  try clear hcz7_1
  try clear hcz7_2
  try clear hcz7_3
  try clear hcz7_4
  try clear hcz7_5
  try clear hcz7_6
  try clear hcz8_0
  try clear hcz8_1
  try clear hcz8_2
  try clear hcz8_3
  try clear hcz8_4
  try clear hcz8_5
  try clear hcz8_6
  try clear hcz9_0
  try clear hcz9_1
  try clear hcz9_2
  try clear hcz9_3
  try clear hcz9_4
  try clear hcz9_5
  try clear hcz9_6
  try clear hfz10_0
  try clear hfz10_1
  try clear hfz10_2
  try clear hfz10_3
  try clear hfz10_4
  try clear hfz10_5
  try clear hfz10_6
  try clear hfz7_0
  try clear hfz7_1
  try clear hfz7_2
  try clear hfz7_3
  try clear hfz7_4
  try clear hfz7_5
  try clear hfz7_6
  try clear hfz8_0
  try clear hfz8_1
  try clear hfz8_2
  try clear hfz8_3
  try clear hfz8_4
  try clear hfz8_5
  try clear hfz8_6
  try clear hfz9_0
  try clear hfz9_1
  try clear hfz9_2
  try clear hfz9_3
  try clear hfz9_4
  try clear hfz9_5
  try clear hfz9_6
  obtain ⟨kq, x3_1, rfl, HA, HJ1, BK269, HB⟩ := hcut
  cases kq with
  | zero => exact absurd HA.out (by simp [waggonerref16_Check_p.j0])
  | succ kj1 =>
   have H := HA.out
   clear HA
   simp only [waggonerref16_Check_p.j0] at H
   have HC11 := Aside0.mk H
   clear H
   go_upto_region 2 with (fail)
   go_cut [4] (fun v4 wc => ∃ (kq : Nat) (x4_10 : Bool), v4 = .bool x4_10 ∧ Aside0 (waggonerref16_Check_p.j1 kq x3_1 x4_10 a0_0 a0_1 a0_2 l0_3 a0_4 a0_5 a0_6 = some r) ∧ Aside0 (kq ≤ kj1) ∧ Aside0 (wc.heap[gb269]? = some (.cells #[.int .i64 a0_0, .int .i64 a0_1, .int .i64 a0_2, (.slice A0_3 l0_3.length c0_3), .int .i64 a0_4, .int .i64 a0_5, .int .i64 a0_6] 38 (0, 0))) ∧ Aside0 (Below w.heap.size w wc))
   case first =>
    have H := HC11.out
    clear HC11
    by_cases c12 : a0_4 = 0
    ·rw [if_pos c12] at H
     have c12b0 : (a0_4 == 0) = true := beq_iff_eq.mpr c12
     have c12b1 : (a0_4 != 0) = false := bne_eq_false_iff_eq.mpr c12
     clear c12
     (first | rw [c12b0] | (simp only [i64_w, i32_w]; rw [c12b0]) | skip)
     by_cases c13 : a0_5 = 0
     ·rw [if_pos c13] at H
      have c13b0 : (a0_5 == 0) = true := beq_iff_eq.mpr c13
      have c13b1 : (a0_5 != 0) = false := bne_eq_false_iff_eq.mpr c13
      clear c13
      have H' := Aside0.mk H
      clear H
      have hcz14_0 : wc.cell? ⟨gb269, 0, none⟩ = some (.int .i64 a0_0) := (blk_cell BK269.out 0).trans rfl
      have hcz14_1 : wc.cell? ⟨gb269, 1, none⟩ = some (.int .i64 a0_1) := (blk_cell BK269.out 1).trans rfl
      have hcz14_2 : wc.cell? ⟨gb269, 2, none⟩ = some (.int .i64 a0_2) := (blk_cell BK269.out 2).trans rfl
      have hcz14_3 : wc.cell? ⟨gb269, 3, none⟩ = some (.slice A0_3 l0_3.length c0_3) := (blk_cell BK269.out 3).trans rfl
      have hcz14_4 : wc.cell? ⟨gb269, 4, none⟩ = some (.int .i64 a0_4) := (blk_cell BK269.out 4).trans rfl
      have hcz14_5 : wc.cell? ⟨gb269, 5, none⟩ = some (.int .i64 a0_5) := (blk_cell BK269.out 5).trans rfl
      have hcz14_6 : wc.cell? ⟨gb269, 6, none⟩ = some (.int .i64 a0_6) := (blk_cell BK269.out 6).trans rfl
      have hfz14_0 := blk_frozen BK269.out 0
      have hfz14_1 := blk_frozen BK269.out 1
      have hfz14_2 := blk_frozen BK269.out 2
      have hfz14_3 := blk_frozen BK269.out 3
      have hfz14_4 := blk_frozen BK269.out 4
      have hfz14_5 := blk_frozen BK269.out 5
      have hfz14_6 := blk_frozen BK269.out 6
      go_wp2
      go_meet
      case rel => exact ⟨_, ((a0_6 == 0)), (by first | rfl | (simp; done) | (simp [*]; done)), H', ⟨by have := HJ1.out; first | omega | exact Nat.le_refl _⟩, ⟨by (with_reducible repeat (first | refine blk_drewN ?_ _ | refine blk_drew ?_ | refine blk_alloc ?_ _)); exact BK269.out⟩, ⟨by repeat (first | (with_reducible first | exact HB.out | apply below_alloc | apply pw_below_drewN | apply below_drew1 | refine below_set ?_ GE269.out) | exact HB.out)⟩⟩
     ·rw [if_neg c13] at H
      have c13b0 : (a0_5 == 0) = false := beq_eq_false_iff_ne.mpr c13
      have c13b1 : (a0_5 != 0) = true := bne_iff_ne.mpr c13
      have H' := Aside0.mk H
      clear H
      have hcz15_0 : wc.cell? ⟨gb269, 0, none⟩ = some (.int .i64 a0_0) := (blk_cell BK269.out 0).trans rfl
      have hcz15_1 : wc.cell? ⟨gb269, 1, none⟩ = some (.int .i64 a0_1) := (blk_cell BK269.out 1).trans rfl
      have hcz15_2 : wc.cell? ⟨gb269, 2, none⟩ = some (.int .i64 a0_2) := (blk_cell BK269.out 2).trans rfl
      have hcz15_3 : wc.cell? ⟨gb269, 3, none⟩ = some (.slice A0_3 l0_3.length c0_3) := (blk_cell BK269.out 3).trans rfl
      have hcz15_4 : wc.cell? ⟨gb269, 4, none⟩ = some (.int .i64 a0_4) := (blk_cell BK269.out 4).trans rfl
      have hcz15_5 : wc.cell? ⟨gb269, 5, none⟩ = some (.int .i64 a0_5) := (blk_cell BK269.out 5).trans rfl
      have hcz15_6 : wc.cell? ⟨gb269, 6, none⟩ = some (.int .i64 a0_6) := (blk_cell BK269.out 6).trans rfl
      have hfz15_0 := blk_frozen BK269.out 0
      have hfz15_1 := blk_frozen BK269.out 1
      have hfz15_2 := blk_frozen BK269.out 2
      have hfz15_3 := blk_frozen BK269.out 3
      have hfz15_4 := blk_frozen BK269.out 4
      have hfz15_5 := blk_frozen BK269.out 5
      have hfz15_6 := blk_frozen BK269.out 6
      go_wp2
      go_meet
      case rel => exact ⟨_, (false), (by first | rfl | (simp; done) | (simp [*]; done)), H', ⟨by have := HJ1.out; first | omega | exact Nat.le_refl _⟩, ⟨by (with_reducible repeat (first | refine blk_drewN ?_ _ | refine blk_drew ?_ | refine blk_alloc ?_ _)); exact BK269.out⟩, ⟨by repeat (first | (with_reducible first | exact HB.out | apply below_alloc | apply pw_below_drewN | apply below_drew1 | refine below_set ?_ GE269.out) | exact HB.out)⟩⟩
    ·rw [if_neg c12] at H
     have c12b0 : (a0_4 == 0) = false := beq_eq_false_iff_ne.mpr c12
     have c12b1 : (a0_4 != 0) = true := bne_iff_ne.mpr c12
     (first | rw [c12b0] | (simp only [i64_w, i32_w]; rw [c12b0]) | skip)
     have H' := Aside0.mk H
     clear H
     have hcz16_0 : wc.cell? ⟨gb269, 0, none⟩ = some (.int .i64 a0_0) := (blk_cell BK269.out 0).trans rfl
     have hcz16_1 : wc.cell? ⟨gb269, 1, none⟩ = some (.int .i64 a0_1) := (blk_cell BK269.out 1).trans rfl
     have hcz16_2 : wc.cell? ⟨gb269, 2, none⟩ = some (.int .i64 a0_2) := (blk_cell BK269.out 2).trans rfl
     have hcz16_3 : wc.cell? ⟨gb269, 3, none⟩ = some (.slice A0_3 l0_3.length c0_3) := (blk_cell BK269.out 3).trans rfl
     have hcz16_4 : wc.cell? ⟨gb269, 4, none⟩ = some (.int .i64 a0_4) := (blk_cell BK269.out 4).trans rfl
     have hcz16_5 : wc.cell? ⟨gb269, 5, none⟩ = some (.int .i64 a0_5) := (blk_cell BK269.out 5).trans rfl
     have hcz16_6 : wc.cell? ⟨gb269, 6, none⟩ = some (.int .i64 a0_6) := (blk_cell BK269.out 6).trans rfl
     have hfz16_0 := blk_frozen BK269.out 0
     have hfz16_1 := blk_frozen BK269.out 1
     have hfz16_2 := blk_frozen BK269.out 2
     have hfz16_3 := blk_frozen BK269.out 3
     have hfz16_4 := blk_frozen BK269.out 4
     have hfz16_5 := blk_frozen BK269.out 5
     have hfz16_6 := blk_frozen BK269.out 6
     go_wp2
     go_meet
     case rel => exact ⟨_, (false), (by first | rfl | (simp; done) | (simp [*]; done)), H', ⟨by have := HJ1.out; first | omega | exact Nat.le_refl _⟩, ⟨by (with_reducible repeat (first | refine blk_drewN ?_ _ | refine blk_drew ?_ | refine blk_alloc ?_ _)); exact BK269.out⟩, ⟨by repeat (first | (with_reducible first | exact HB.out | apply below_alloc | apply pw_below_drewN | apply below_drew1 | refine below_set ?_ GE269.out) | exact HB.out)⟩⟩
   case rest =>
    clear HC11
    try clear c1
    try clear c2
    try clear p2
    try clear c4
    try clear c4b0
    try clear c5
    try clear c5b0
    try clear c6
    try clear c6b0
    try clear p6
    try clear c12
    try clear c12b0
    try clear c12b1
    try clear c13
    try clear c13b0
    try clear c13b1
    try clear hcz10_0
    try clear hcz10_1
    try clear hcz10_2
    try clear hcz10_3
    try clear hcz10_4
    try clear hcz10_5
    try clear hcz10_6
    try clear hcz14_0
    try clear hcz14_1
    try clear hcz14_2
    try clear hcz14_3
    try clear hcz14_4
    try clear hcz14_5
    try clear hcz14_6
    try clear hcz15_0
    try clear hcz15_1
    try clear hcz15_2
    try clear hcz15_3
    try clear hcz15_4
    try clear hcz15_5
    try clear hcz15_6
    try clear hcz16_0
    try clear hcz16_1
    try clear hcz16_2
    try clear hcz16_3
    try clear hcz16_4
    try clear hcz16_5
    try clear hcz16_6
    try clear hcz7_0
    try clear hcz7_1
    try clear hcz7_2
    try clear hcz7_3
    try clear hcz7_4
    try clear hcz7_5
    try clear hcz7_6
    try clear hcz8_0
    try clear hcz8_1
    try clear hcz8_2
    try clear hcz8_3
    try clear hcz8_4
    try clear hcz8_5
    try clear hcz8_6
    try clear hcz9_0
    try clear hcz9_1
    try clear hcz9_2
    try clear hcz9_3
    try clear hcz9_4
    try clear hcz9_5
    try clear hcz9_6
    try clear hfz10_0
    try clear hfz10_1
    try clear hfz10_2
    try clear hfz10_3
    try clear hfz10_4
    try clear hfz10_5
    try clear hfz10_6
    try clear hfz14_0
    try clear hfz14_1
    try clear hfz14_2
    try clear hfz14_3
    try clear hfz14_4
    try clear hfz14_5
    try clear hfz14_6
    try clear hfz15_0
    try clear hfz15_1
    try clear hfz15_2
    try clear hfz15_3
    try clear hfz15_4
    try clear hfz15_5
    try clear hfz15_6
    try clear hfz16_0
    try clear hfz16_1
    try clear hfz16_2
    try clear hfz16_3
    try clear hfz16_4
    try clear hfz16_5
    try clear hfz16_6
    try clear hfz7_0
    try clear hfz7_1
    try clear hfz7_2
    try clear hfz7_3
    try clear hfz7_4
    try clear hfz7_5
    try clear hfz7_6
    try clear hfz8_0
    try clear hfz8_1
    try clear hfz8_2
    try clear hfz8_3
    try clear hfz8_4
    try clear hfz8_5
    try clear hfz8_6
    try clear hfz9_0
    try clear hfz9_1
    try clear hfz9_2
    try clear hfz9_3
    try clear hfz9_4
    try clear hfz9_5
    try clear hfz9_6
    try clear p2
    try clear p6
    obtain ⟨kq, x4_10, rfl, HA, HJ10, BK269, HB⟩ := hcut
    cases kq with
    | zero => exact absurd HA.out (by simp [waggonerref16_Check_p.j1])
    | succ kj10 =>
     have H := HA.out
     clear HA
     simp only [waggonerref16_Check_p.j1] at H
     have HC17 := Aside0.mk H
     clear H
     go_upto_region 3 with (fail)
     go_cut [5] (fun v5 wc => ∃ (kq : Nat) (x5_16 : Bool), v5 = .bool x5_16 ∧ Aside0 (waggonerref16_Check_p.j2 kq x3_1 x4_10 x5_16 a0_0 a0_1 a0_2 l0_3 a0_4 a0_5 a0_6 = some r) ∧ Aside0 (kq ≤ kj10) ∧ Aside0 (wc.heap[gb269]? = some (.cells #[.int .i64 a0_0, .int .i64 a0_1, .int .i64 a0_2, (.slice A0_3 l0_3.length c0_3), .int .i64 a0_4, .int .i64 a0_5, .int .i64 a0_6] 38 (0, 0))) ∧ Aside0 (Below w.heap.size w wc))
     case first =>
      have H := HC17.out
      clear HC17
      by_cases c18 : a0_1 = 0
      ·rw [if_pos c18] at H
       have c18b0 : (a0_1 == 0) = true := beq_iff_eq.mpr c18
       have c18b1 : (a0_1 != 0) = false := bne_eq_false_iff_eq.mpr c18
       clear c18
       (first | rw [c18b0] | (simp only [i64_w, i32_w]; rw [c18b0]) | skip)
       by_cases c19 : a0_2 = 0
       ·rw [if_pos c19] at H
        have c19b0 : (a0_2 == 0) = true := beq_iff_eq.mpr c19
        have c19b1 : (a0_2 != 0) = false := bne_eq_false_iff_eq.mpr c19
        clear c19
        have H' := Aside0.mk H
        clear H
        have hcz20_0 : wc.cell? ⟨gb269, 0, none⟩ = some (.int .i64 a0_0) := (blk_cell BK269.out 0).trans rfl
        have hcz20_1 : wc.cell? ⟨gb269, 1, none⟩ = some (.int .i64 a0_1) := (blk_cell BK269.out 1).trans rfl
        have hcz20_2 : wc.cell? ⟨gb269, 2, none⟩ = some (.int .i64 a0_2) := (blk_cell BK269.out 2).trans rfl
        have hcz20_3 : wc.cell? ⟨gb269, 3, none⟩ = some (.slice A0_3 l0_3.length c0_3) := (blk_cell BK269.out 3).trans rfl
        have hcz20_4 : wc.cell? ⟨gb269, 4, none⟩ = some (.int .i64 a0_4) := (blk_cell BK269.out 4).trans rfl
        have hcz20_5 : wc.cell? ⟨gb269, 5, none⟩ = some (.int .i64 a0_5) := (blk_cell BK269.out 5).trans rfl
        have hcz20_6 : wc.cell? ⟨gb269, 6, none⟩ = some (.int .i64 a0_6) := (blk_cell BK269.out 6).trans rfl
        have hfz20_0 := blk_frozen BK269.out 0
        have hfz20_1 := blk_frozen BK269.out 1
        have hfz20_2 := blk_frozen BK269.out 2
        have hfz20_3 := blk_frozen BK269.out 3
        have hfz20_4 := blk_frozen BK269.out 4
        have hfz20_5 := blk_frozen BK269.out 5
        have hfz20_6 := blk_frozen BK269.out 6
        go_wp2
        go_meet
        case rel => exact ⟨_, (((l0_3.length : Int) == 0)), (by first | rfl | (simp; done) | (simp [*]; done)), H', ⟨by have := HJ1.out; have := HJ10.out; first | omega | exact Nat.le_refl _⟩, ⟨by (with_reducible repeat (first | refine blk_drewN ?_ _ | refine blk_drew ?_ | refine blk_alloc ?_ _)); exact BK269.out⟩, ⟨by repeat (first | (with_reducible first | exact HB.out | apply below_alloc | apply pw_below_drewN | apply below_drew1 | refine below_set ?_ GE269.out) | exact HB.out)⟩⟩
       ·rw [if_neg c19] at H
        have c19b0 : (a0_2 == 0) = false := beq_eq_false_iff_ne.mpr c19
        have c19b1 : (a0_2 != 0) = true := bne_iff_ne.mpr c19
        have H' := Aside0.mk H
        clear H
        have hcz21_0 : wc.cell? ⟨gb269, 0, none⟩ = some (.int .i64 a0_0) := (blk_cell BK269.out 0).trans rfl
        have hcz21_1 : wc.cell? ⟨gb269, 1, none⟩ = some (.int .i64 a0_1) := (blk_cell BK269.out 1).trans rfl
        have hcz21_2 : wc.cell? ⟨gb269, 2, none⟩ = some (.int .i64 a0_2) := (blk_cell BK269.out 2).trans rfl
        have hcz21_3 : wc.cell? ⟨gb269, 3, none⟩ = some (.slice A0_3 l0_3.length c0_3) := (blk_cell BK269.out 3).trans rfl
        have hcz21_4 : wc.cell? ⟨gb269, 4, none⟩ = some (.int .i64 a0_4) := (blk_cell BK269.out 4).trans rfl
        have hcz21_5 : wc.cell? ⟨gb269, 5, none⟩ = some (.int .i64 a0_5) := (blk_cell BK269.out 5).trans rfl
        have hcz21_6 : wc.cell? ⟨gb269, 6, none⟩ = some (.int .i64 a0_6) := (blk_cell BK269.out 6).trans rfl
        have hfz21_0 := blk_frozen BK269.out 0
        have hfz21_1 := blk_frozen BK269.out 1
        have hfz21_2 := blk_frozen BK269.out 2
        have hfz21_3 := blk_frozen BK269.out 3
        have hfz21_4 := blk_frozen BK269.out 4
        have hfz21_5 := blk_frozen BK269.out 5
        have hfz21_6 := blk_frozen BK269.out 6
        go_wp2
        go_meet
        case rel => exact ⟨_, (false), (by first | rfl | (simp; done) | (simp [*]; done)), H', ⟨by have := HJ1.out; have := HJ10.out; first | omega | exact Nat.le_refl _⟩, ⟨by (with_reducible repeat (first | refine blk_drewN ?_ _ | refine blk_drew ?_ | refine blk_alloc ?_ _)); exact BK269.out⟩, ⟨by repeat (first | (with_reducible first | exact HB.out | apply below_alloc | apply pw_below_drewN | apply below_drew1 | refine below_set ?_ GE269.out) | exact HB.out)⟩⟩
      ·rw [if_neg c18] at H
       have c18b0 : (a0_1 == 0) = false := beq_eq_false_iff_ne.mpr c18
       have c18b1 : (a0_1 != 0) = true := bne_iff_ne.mpr c18
       (first | rw [c18b0] | (simp only [i64_w, i32_w]; rw [c18b0]) | skip)
       have H' := Aside0.mk H
       clear H
       have hcz22_0 : wc.cell? ⟨gb269, 0, none⟩ = some (.int .i64 a0_0) := (blk_cell BK269.out 0).trans rfl
       have hcz22_1 : wc.cell? ⟨gb269, 1, none⟩ = some (.int .i64 a0_1) := (blk_cell BK269.out 1).trans rfl
       have hcz22_2 : wc.cell? ⟨gb269, 2, none⟩ = some (.int .i64 a0_2) := (blk_cell BK269.out 2).trans rfl
       have hcz22_3 : wc.cell? ⟨gb269, 3, none⟩ = some (.slice A0_3 l0_3.length c0_3) := (blk_cell BK269.out 3).trans rfl
       have hcz22_4 : wc.cell? ⟨gb269, 4, none⟩ = some (.int .i64 a0_4) := (blk_cell BK269.out 4).trans rfl
       have hcz22_5 : wc.cell? ⟨gb269, 5, none⟩ = some (.int .i64 a0_5) := (blk_cell BK269.out 5).trans rfl
       have hcz22_6 : wc.cell? ⟨gb269, 6, none⟩ = some (.int .i64 a0_6) := (blk_cell BK269.out 6).trans rfl
       have hfz22_0 := blk_frozen BK269.out 0
       have hfz22_1 := blk_frozen BK269.out 1
       have hfz22_2 := blk_frozen BK269.out 2
       have hfz22_3 := blk_frozen BK269.out 3
       have hfz22_4 := blk_frozen BK269.out 4
       have hfz22_5 := blk_frozen BK269.out 5
       have hfz22_6 := blk_frozen BK269.out 6
       go_wp2
       go_meet
       case rel => exact ⟨_, (false), (by first | rfl | (simp; done) | (simp [*]; done)), H', ⟨by have := HJ1.out; have := HJ10.out; first | omega | exact Nat.le_refl _⟩, ⟨by (with_reducible repeat (first | refine blk_drewN ?_ _ | refine blk_drew ?_ | refine blk_alloc ?_ _)); exact BK269.out⟩, ⟨by repeat (first | (with_reducible first | exact HB.out | apply below_alloc | apply pw_below_drewN | apply below_drew1 | refine below_set ?_ GE269.out) | exact HB.out)⟩⟩
     case rest =>
      clear HC17
      try clear c1
      try clear c2
      try clear p2
      try clear c4
      try clear c4b0
      try clear c5
      try clear c5b0
      try clear c6
      try clear c6b0
      try clear p6
      try clear c12
      try clear c12b0
      try clear c12b1
      try clear c13
      try clear c13b0
      try clear c13b1
      try clear c18
      try clear c18b0
      try clear c18b1
      try clear c19
      try clear c19b0
      try clear c19b1
      try clear hcz10_0
      try clear hcz10_1
      try clear hcz10_2
      try clear hcz10_3
      try clear hcz10_4
      try clear hcz10_5
      try clear hcz10_6
      try clear hcz14_0
      try clear hcz14_1
      try clear hcz14_2
      try clear hcz14_3
      try clear hcz14_4
      try clear hcz14_5
      try clear hcz14_6
      try clear hcz15_0
      try clear hcz15_1
      try clear hcz15_2
      try clear hcz15_3
      try clear hcz15_4
      try clear hcz15_5
      try clear hcz15_6
      try clear hcz16_0
      try clear hcz16_1
      try clear hcz16_2
      try clear hcz16_3
      try clear hcz16_4
      try clear hcz16_5
      try clear hcz16_6
      try clear hcz20_0
      try clear hcz20_1
      try clear hcz20_2
      try clear hcz20_3
      try clear hcz20_4
      try clear hcz20_5
      try clear hcz20_6
      try clear hcz21_0
      try clear hcz21_1
      try clear hcz21_2
      try clear hcz21_3
      try clear hcz21_4
      try clear hcz21_5
      try clear hcz21_6
      try clear hcz22_0
      try clear hcz22_1
      try clear hcz22_2
      try clear hcz22_3
      try clear hcz22_4
      try clear hcz22_5
      try clear hcz22_6
      try clear hcz7_0
      try clear hcz7_1
      try clear hcz7_2
      try clear hcz7_3
      try clear hcz7_4
      try clear hcz7_5
      try clear hcz7_6
      try clear hcz8_0
      try clear hcz8_1
      try clear hcz8_2
      try clear hcz8_3
      try clear hcz8_4
      try clear hcz8_5
      try clear hcz8_6
      try clear hcz9_0
      try clear hcz9_1
      try clear hcz9_2
      try clear hcz9_3
      try clear hcz9_4
      try clear hcz9_5
      try clear hcz9_6
      try clear hfz10_0
      try clear hfz10_1
      try clear hfz10_2
      try clear hfz10_3
      try clear hfz10_4
      try clear hfz10_5
      try clear hfz10_6
      try clear hfz14_0
      try clear hfz14_1
      try clear hfz14_2
      try clear hfz14_3
      try clear hfz14_4
      try clear hfz14_5
      try clear hfz14_6
      try clear hfz15_0
      try clear hfz15_1
      try clear hfz15_2
      try clear hfz15_3
      try clear hfz15_4
      try clear hfz15_5
      try clear hfz15_6
      try clear hfz16_0
      try clear hfz16_1
      try clear hfz16_2
      try clear hfz16_3
      try clear hfz16_4
      try clear hfz16_5
      try clear hfz16_6
      try clear hfz20_0
      try clear hfz20_1
      try clear hfz20_2
      try clear hfz20_3
      try clear hfz20_4
      try clear hfz20_5
      try clear hfz20_6
      try clear hfz21_0
      try clear hfz21_1
      try clear hfz21_2
      try clear hfz21_3
      try clear hfz21_4
      try clear hfz21_5
      try clear hfz21_6
      try clear hfz22_0
      try clear hfz22_1
      try clear hfz22_2
      try clear hfz22_3
      try clear hfz22_4
      try clear hfz22_5
      try clear hfz22_6
      try clear hfz7_0
      try clear hfz7_1
      try clear hfz7_2
      try clear hfz7_3
      try clear hfz7_4
      try clear hfz7_5
      try clear hfz7_6
      try clear hfz8_0
      try clear hfz8_1
      try clear hfz8_2
      try clear hfz8_3
      try clear hfz8_4
      try clear hfz8_5
      try clear hfz8_6
      try clear hfz9_0
      try clear hfz9_1
      try clear hfz9_2
      try clear hfz9_3
      try clear hfz9_4
      try clear hfz9_5
      try clear hfz9_6
      try clear p2
      try clear p6
      obtain ⟨kq, x5_16, rfl, HA, HJ16, BK269, HB⟩ := hcut
      cases kq with
      | zero => exact absurd HA.out (by simp [waggonerref16_Check_p.j2])
      | succ kj16 =>
       have H := HA.out
       clear HA
       simp only [waggonerref16_Check_p.j2] at H
       replace H := Option.bind_eq_some_iff.mp H
       obtain ⟨t270, A230, H⟩ := H
       replace H : (if a0_0 = 1 then (if x5_16 = true then (if a0_4 ≥ 1 then (if a0_4 ≤ 64 then (if a0_5 ≥ 0 then (if a0_6 > a0_5 then (some (decide (a0_6 < 2147483648))) else (some false)) else (some false)) else (some false)) else (some false)) else (some false)) else (if a0_0 = 2 then (if x3_1 = true then (if x4_10 = true then (if a0_2 ≤ 16 then (if (l0_3.length : Int) = (wrap64 (32 * a0_2)) then (some (!t270)) else (some false)) else (some false)) else (some false)) else (some false)) else (if a0_0 = 3 then (waggonerref16_Check_p.j3 kj16 x3_1 x4_10 x5_16 a0_0 (a0_0 == 3) a0_0 a0_1 a0_2 l0_3 a0_4 a0_5 a0_6) else (waggonerref16_Check_p.j3 kj16 x3_1 x4_10 x5_16 a0_0 (a0_0 == 4) a0_0 a0_1 a0_2 l0_3 a0_4 a0_5 a0_6)))) = some r := H
       have A23 := Aside0.mk A230
       clear A230
       by_cases c24 : a0_0 = 1
       ·rw [if_pos c24] at H
        have c24b0 : (a0_0 == 1) = true := beq_iff_eq.mpr c24
        have c24b1 : (a0_0 != 1) = false := bne_eq_false_iff_eq.mpr c24
        clear c24
        by_cases c25 : x5_16 = true
        ·subst c25
         have H1 : (if a0_4 ≥ 1 then (if a0_4 ≤ 64 then (if a0_5 ≥ 0 then (if a0_6 > a0_5 then (some (decide (a0_6 < 2147483648))) else (some false)) else (some false)) else (some false)) else (some false)) = some r := by rw [if_pos rfl] at H <;> exact H
         clear H
         have H := H1
         clear H1
         by_cases c26 : a0_4 ≥ 1
         ·rw [if_pos c26] at H
          have c26b0 : decide (1 ≤ a0_4) = true := decide_eq_true c26
          clear c26
          by_cases c27 : a0_4 ≤ 64
          ·rw [if_pos c27] at H
           have c27b0 : decide (a0_4 ≤ 64) = true := decide_eq_true c27
           clear c27
           by_cases c28 : a0_5 ≥ 0
           ·rw [if_pos c28] at H
            have c28b0 : decide (0 ≤ a0_5) = true := decide_eq_true c28
            clear c28
            by_cases c29 : a0_6 > a0_5
            ·rw [if_pos c29] at H
             have c29b0 : decide (a0_5 < a0_6) = true := decide_eq_true c29
             clear c29
             obtain rfl := Option.some.inj H
             have hcz30_0 : wc.cell? ⟨gb269, 0, none⟩ = some (.int .i64 a0_0) := (blk_cell BK269.out 0).trans rfl
             have hcz30_1 : wc.cell? ⟨gb269, 1, none⟩ = some (.int .i64 a0_1) := (blk_cell BK269.out 1).trans rfl
             have hcz30_2 : wc.cell? ⟨gb269, 2, none⟩ = some (.int .i64 a0_2) := (blk_cell BK269.out 2).trans rfl
             have hcz30_3 : wc.cell? ⟨gb269, 3, none⟩ = some (.slice A0_3 l0_3.length c0_3) := (blk_cell BK269.out 3).trans rfl
             have hcz30_4 : wc.cell? ⟨gb269, 4, none⟩ = some (.int .i64 a0_4) := (blk_cell BK269.out 4).trans rfl
             have hcz30_5 : wc.cell? ⟨gb269, 5, none⟩ = some (.int .i64 a0_5) := (blk_cell BK269.out 5).trans rfl
             have hcz30_6 : wc.cell? ⟨gb269, 6, none⟩ = some (.int .i64 a0_6) := (blk_cell BK269.out 6).trans rfl
             have hfz30_0 := blk_frozen BK269.out 0
             have hfz30_1 := blk_frozen BK269.out 1
             have hfz30_2 := blk_frozen BK269.out 2
             have hfz30_3 := blk_frozen BK269.out 3
             have hfz30_4 := blk_frozen BK269.out 4
             have hfz30_5 := blk_frozen BK269.out 5
             have hfz30_6 := blk_frozen BK269.out 6
             go_wp2_with (first | ((with_reducible refine gate_callee (f := 50) rfl ?_); refine goesL_ (some 57) rfl rfl Try.func50 (by kernel_rfl) rfl #[.slice A0_3 l0_3.length c0_3] rfl (by (try simp only [List.map_toArray, List.map_cons, List.map_nil]); first | done | rfl | (simp only [List.length_drop, List.length_take]; rfl)) ?_; (with_reducible refine (waggonerref16_zeros.calls _ _ l0_3 t270 _ ?side1 ?side2 A23.out).mono ?_); (case side1 => repeat (first | exact (Kd.C_below HR0_3.out HB.out) | (with_reducible refine Kd.C_alloc ?_ _) | (with_reducible refine Kd.C_drewN ?_ _) | (with_reducible refine Kd.C_drew ?_))); (case side2 => exact HC0_3.out); rintro e w' ⟨rfl, ⟨nd, rfl⟩⟩; refine ⟨_, rfl, ?_⟩))
             go_ret
             exact ⟨by first | rfl | (simp [errW_none, errW_some] <;> rfl) | (simp [*, errW_none, errW_some] <;> rfl), by repeat (first | (with_reducible first | exact HB.out | apply below_alloc | apply pw_below_drewN | apply below_drew1 | refine below_set ?_ GE269.out) | exact HB.out)⟩
            ·rw [if_neg c29] at H
             have c29b0 : decide (a0_5 < a0_6) = false := decide_eq_false c29
             clear c29
             obtain rfl := Option.some.inj H
             have hcz31_0 : wc.cell? ⟨gb269, 0, none⟩ = some (.int .i64 a0_0) := (blk_cell BK269.out 0).trans rfl
             have hcz31_1 : wc.cell? ⟨gb269, 1, none⟩ = some (.int .i64 a0_1) := (blk_cell BK269.out 1).trans rfl
             have hcz31_2 : wc.cell? ⟨gb269, 2, none⟩ = some (.int .i64 a0_2) := (blk_cell BK269.out 2).trans rfl
             have hcz31_3 : wc.cell? ⟨gb269, 3, none⟩ = some (.slice A0_3 l0_3.length c0_3) := (blk_cell BK269.out 3).trans rfl
             have hcz31_4 : wc.cell? ⟨gb269, 4, none⟩ = some (.int .i64 a0_4) := (blk_cell BK269.out 4).trans rfl
             have hcz31_5 : wc.cell? ⟨gb269, 5, none⟩ = some (.int .i64 a0_5) := (blk_cell BK269.out 5).trans rfl
             have hcz31_6 : wc.cell? ⟨gb269, 6, none⟩ = some (.int .i64 a0_6) := (blk_cell BK269.out 6).trans rfl
             have hfz31_0 := blk_frozen BK269.out 0
             have hfz31_1 := blk_frozen BK269.out 1
             have hfz31_2 := blk_frozen BK269.out 2
             have hfz31_3 := blk_frozen BK269.out 3
             have hfz31_4 := blk_frozen BK269.out 4
             have hfz31_5 := blk_frozen BK269.out 5
             have hfz31_6 := blk_frozen BK269.out 6
             go_wp2_with (first | ((with_reducible refine gate_callee (f := 50) rfl ?_); refine goesL_ (some 57) rfl rfl Try.func50 (by kernel_rfl) rfl #[.slice A0_3 l0_3.length c0_3] rfl (by (try simp only [List.map_toArray, List.map_cons, List.map_nil]); first | done | rfl | (simp only [List.length_drop, List.length_take]; rfl)) ?_; (with_reducible refine (waggonerref16_zeros.calls _ _ l0_3 t270 _ ?side1 ?side2 A23.out).mono ?_); (case side1 => repeat (first | exact (Kd.C_below HR0_3.out HB.out) | (with_reducible refine Kd.C_alloc ?_ _) | (with_reducible refine Kd.C_drewN ?_ _) | (with_reducible refine Kd.C_drew ?_))); (case side2 => exact HC0_3.out); rintro e w' ⟨rfl, ⟨nd, rfl⟩⟩; refine ⟨_, rfl, ?_⟩))
             go_ret
             exact ⟨by first | rfl | (simp [errW_none, errW_some] <;> rfl) | (simp [*, errW_none, errW_some] <;> rfl), by repeat (first | (with_reducible first | exact HB.out | apply below_alloc | apply pw_below_drewN | apply below_drew1 | refine below_set ?_ GE269.out) | exact HB.out)⟩
           ·rw [if_neg c28] at H
            have c28b0 : decide (0 ≤ a0_5) = false := decide_eq_false c28
            clear c28
            obtain rfl := Option.some.inj H
            have hcz32_0 : wc.cell? ⟨gb269, 0, none⟩ = some (.int .i64 a0_0) := (blk_cell BK269.out 0).trans rfl
            have hcz32_1 : wc.cell? ⟨gb269, 1, none⟩ = some (.int .i64 a0_1) := (blk_cell BK269.out 1).trans rfl
            have hcz32_2 : wc.cell? ⟨gb269, 2, none⟩ = some (.int .i64 a0_2) := (blk_cell BK269.out 2).trans rfl
            have hcz32_3 : wc.cell? ⟨gb269, 3, none⟩ = some (.slice A0_3 l0_3.length c0_3) := (blk_cell BK269.out 3).trans rfl
            have hcz32_4 : wc.cell? ⟨gb269, 4, none⟩ = some (.int .i64 a0_4) := (blk_cell BK269.out 4).trans rfl
            have hcz32_5 : wc.cell? ⟨gb269, 5, none⟩ = some (.int .i64 a0_5) := (blk_cell BK269.out 5).trans rfl
            have hcz32_6 : wc.cell? ⟨gb269, 6, none⟩ = some (.int .i64 a0_6) := (blk_cell BK269.out 6).trans rfl
            have hfz32_0 := blk_frozen BK269.out 0
            have hfz32_1 := blk_frozen BK269.out 1
            have hfz32_2 := blk_frozen BK269.out 2
            have hfz32_3 := blk_frozen BK269.out 3
            have hfz32_4 := blk_frozen BK269.out 4
            have hfz32_5 := blk_frozen BK269.out 5
            have hfz32_6 := blk_frozen BK269.out 6
            go_wp2_with (first | ((with_reducible refine gate_callee (f := 50) rfl ?_); refine goesL_ (some 57) rfl rfl Try.func50 (by kernel_rfl) rfl #[.slice A0_3 l0_3.length c0_3] rfl (by (try simp only [List.map_toArray, List.map_cons, List.map_nil]); first | done | rfl | (simp only [List.length_drop, List.length_take]; rfl)) ?_; (with_reducible refine (waggonerref16_zeros.calls _ _ l0_3 t270 _ ?side1 ?side2 A23.out).mono ?_); (case side1 => repeat (first | exact (Kd.C_below HR0_3.out HB.out) | (with_reducible refine Kd.C_alloc ?_ _) | (with_reducible refine Kd.C_drewN ?_ _) | (with_reducible refine Kd.C_drew ?_))); (case side2 => exact HC0_3.out); rintro e w' ⟨rfl, ⟨nd, rfl⟩⟩; refine ⟨_, rfl, ?_⟩))
            go_ret
            exact ⟨by first | rfl | (simp [errW_none, errW_some] <;> rfl) | (simp [*, errW_none, errW_some] <;> rfl), by repeat (first | (with_reducible first | exact HB.out | apply below_alloc | apply pw_below_drewN | apply below_drew1 | refine below_set ?_ GE269.out) | exact HB.out)⟩
          ·rw [if_neg c27] at H
           have c27b0 : decide (a0_4 ≤ 64) = false := decide_eq_false c27
           clear c27
           obtain rfl := Option.some.inj H
           have hcz33_0 : wc.cell? ⟨gb269, 0, none⟩ = some (.int .i64 a0_0) := (blk_cell BK269.out 0).trans rfl
           have hcz33_1 : wc.cell? ⟨gb269, 1, none⟩ = some (.int .i64 a0_1) := (blk_cell BK269.out 1).trans rfl
           have hcz33_2 : wc.cell? ⟨gb269, 2, none⟩ = some (.int .i64 a0_2) := (blk_cell BK269.out 2).trans rfl
           have hcz33_3 : wc.cell? ⟨gb269, 3, none⟩ = some (.slice A0_3 l0_3.length c0_3) := (blk_cell BK269.out 3).trans rfl
           have hcz33_4 : wc.cell? ⟨gb269, 4, none⟩ = some (.int .i64 a0_4) := (blk_cell BK269.out 4).trans rfl
           have hcz33_5 : wc.cell? ⟨gb269, 5, none⟩ = some (.int .i64 a0_5) := (blk_cell BK269.out 5).trans rfl
           have hcz33_6 : wc.cell? ⟨gb269, 6, none⟩ = some (.int .i64 a0_6) := (blk_cell BK269.out 6).trans rfl
           have hfz33_0 := blk_frozen BK269.out 0
           have hfz33_1 := blk_frozen BK269.out 1
           have hfz33_2 := blk_frozen BK269.out 2
           have hfz33_3 := blk_frozen BK269.out 3
           have hfz33_4 := blk_frozen BK269.out 4
           have hfz33_5 := blk_frozen BK269.out 5
           have hfz33_6 := blk_frozen BK269.out 6
           go_wp2_with (first | ((with_reducible refine gate_callee (f := 50) rfl ?_); refine goesL_ (some 57) rfl rfl Try.func50 (by kernel_rfl) rfl #[.slice A0_3 l0_3.length c0_3] rfl (by (try simp only [List.map_toArray, List.map_cons, List.map_nil]); first | done | rfl | (simp only [List.length_drop, List.length_take]; rfl)) ?_; (with_reducible refine (waggonerref16_zeros.calls _ _ l0_3 t270 _ ?side1 ?side2 A23.out).mono ?_); (case side1 => repeat (first | exact (Kd.C_below HR0_3.out HB.out) | (with_reducible refine Kd.C_alloc ?_ _) | (with_reducible refine Kd.C_drewN ?_ _) | (with_reducible refine Kd.C_drew ?_))); (case side2 => exact HC0_3.out); rintro e w' ⟨rfl, ⟨nd, rfl⟩⟩; refine ⟨_, rfl, ?_⟩))
           go_ret
           exact ⟨by first | rfl | (simp [errW_none, errW_some] <;> rfl) | (simp [*, errW_none, errW_some] <;> rfl), by repeat (first | (with_reducible first | exact HB.out | apply below_alloc | apply pw_below_drewN | apply below_drew1 | refine below_set ?_ GE269.out) | exact HB.out)⟩
         ·rw [if_neg c26] at H
          have c26b0 : decide (1 ≤ a0_4) = false := decide_eq_false c26
          clear c26
          obtain rfl := Option.some.inj H
          have hcz34_0 : wc.cell? ⟨gb269, 0, none⟩ = some (.int .i64 a0_0) := (blk_cell BK269.out 0).trans rfl
          have hcz34_1 : wc.cell? ⟨gb269, 1, none⟩ = some (.int .i64 a0_1) := (blk_cell BK269.out 1).trans rfl
          have hcz34_2 : wc.cell? ⟨gb269, 2, none⟩ = some (.int .i64 a0_2) := (blk_cell BK269.out 2).trans rfl
          have hcz34_3 : wc.cell? ⟨gb269, 3, none⟩ = some (.slice A0_3 l0_3.length c0_3) := (blk_cell BK269.out 3).trans rfl
          have hcz34_4 : wc.cell? ⟨gb269, 4, none⟩ = some (.int .i64 a0_4) := (blk_cell BK269.out 4).trans rfl
          have hcz34_5 : wc.cell? ⟨gb269, 5, none⟩ = some (.int .i64 a0_5) := (blk_cell BK269.out 5).trans rfl
          have hcz34_6 : wc.cell? ⟨gb269, 6, none⟩ = some (.int .i64 a0_6) := (blk_cell BK269.out 6).trans rfl
          have hfz34_0 := blk_frozen BK269.out 0
          have hfz34_1 := blk_frozen BK269.out 1
          have hfz34_2 := blk_frozen BK269.out 2
          have hfz34_3 := blk_frozen BK269.out 3
          have hfz34_4 := blk_frozen BK269.out 4
          have hfz34_5 := blk_frozen BK269.out 5
          have hfz34_6 := blk_frozen BK269.out 6
          go_wp2_with (first | ((with_reducible refine gate_callee (f := 50) rfl ?_); refine goesL_ (some 57) rfl rfl Try.func50 (by kernel_rfl) rfl #[.slice A0_3 l0_3.length c0_3] rfl (by (try simp only [List.map_toArray, List.map_cons, List.map_nil]); first | done | rfl | (simp only [List.length_drop, List.length_take]; rfl)) ?_; (with_reducible refine (waggonerref16_zeros.calls _ _ l0_3 t270 _ ?side1 ?side2 A23.out).mono ?_); (case side1 => repeat (first | exact (Kd.C_below HR0_3.out HB.out) | (with_reducible refine Kd.C_alloc ?_ _) | (with_reducible refine Kd.C_drewN ?_ _) | (with_reducible refine Kd.C_drew ?_))); (case side2 => exact HC0_3.out); rintro e w' ⟨rfl, ⟨nd, rfl⟩⟩; refine ⟨_, rfl, ?_⟩))
          go_ret
          exact ⟨by first | rfl | (simp [errW_none, errW_some] <;> rfl) | (simp [*, errW_none, errW_some] <;> rfl), by repeat (first | (with_reducible first | exact HB.out | apply below_alloc | apply pw_below_drewN | apply below_drew1 | refine below_set ?_ GE269.out) | exact HB.out)⟩
        ·replace c25 := Bool.eq_false_iff.mpr c25
         subst c25
         have H1 : (some false) = some r := by rw [if_neg (show ¬ (false = true) by decide)] at H <;> exact H
         clear H
         have H := H1
         clear H1
         obtain rfl := Option.some.inj H
         have hcz35_0 : wc.cell? ⟨gb269, 0, none⟩ = some (.int .i64 a0_0) := (blk_cell BK269.out 0).trans rfl
         have hcz35_1 : wc.cell? ⟨gb269, 1, none⟩ = some (.int .i64 a0_1) := (blk_cell BK269.out 1).trans rfl
         have hcz35_2 : wc.cell? ⟨gb269, 2, none⟩ = some (.int .i64 a0_2) := (blk_cell BK269.out 2).trans rfl
         have hcz35_3 : wc.cell? ⟨gb269, 3, none⟩ = some (.slice A0_3 l0_3.length c0_3) := (blk_cell BK269.out 3).trans rfl
         have hcz35_4 : wc.cell? ⟨gb269, 4, none⟩ = some (.int .i64 a0_4) := (blk_cell BK269.out 4).trans rfl
         have hcz35_5 : wc.cell? ⟨gb269, 5, none⟩ = some (.int .i64 a0_5) := (blk_cell BK269.out 5).trans rfl
         have hcz35_6 : wc.cell? ⟨gb269, 6, none⟩ = some (.int .i64 a0_6) := (blk_cell BK269.out 6).trans rfl
         have hfz35_0 := blk_frozen BK269.out 0
         have hfz35_1 := blk_frozen BK269.out 1
         have hfz35_2 := blk_frozen BK269.out 2
         have hfz35_3 := blk_frozen BK269.out 3
         have hfz35_4 := blk_frozen BK269.out 4
         have hfz35_5 := blk_frozen BK269.out 5
         have hfz35_6 := blk_frozen BK269.out 6
         go_wp2_with (first | ((with_reducible refine gate_callee (f := 50) rfl ?_); refine goesL_ (some 57) rfl rfl Try.func50 (by kernel_rfl) rfl #[.slice A0_3 l0_3.length c0_3] rfl (by (try simp only [List.map_toArray, List.map_cons, List.map_nil]); first | done | rfl | (simp only [List.length_drop, List.length_take]; rfl)) ?_; (with_reducible refine (waggonerref16_zeros.calls _ _ l0_3 t270 _ ?side1 ?side2 A23.out).mono ?_); (case side1 => repeat (first | exact (Kd.C_below HR0_3.out HB.out) | (with_reducible refine Kd.C_alloc ?_ _) | (with_reducible refine Kd.C_drewN ?_ _) | (with_reducible refine Kd.C_drew ?_))); (case side2 => exact HC0_3.out); rintro e w' ⟨rfl, ⟨nd, rfl⟩⟩; refine ⟨_, rfl, ?_⟩))
         go_ret
         exact ⟨by first | rfl | (simp [errW_none, errW_some] <;> rfl) | (simp [*, errW_none, errW_some] <;> rfl), by repeat (first | (with_reducible first | exact HB.out | apply below_alloc | apply pw_below_drewN | apply below_drew1 | refine below_set ?_ GE269.out) | exact HB.out)⟩
       ·rw [if_neg c24] at H
        have c24b0 : (a0_0 == 1) = false := beq_eq_false_iff_ne.mpr c24
        have c24b1 : (a0_0 != 1) = true := bne_iff_ne.mpr c24
        by_cases c36 : a0_0 = 2
        ·rw [if_pos c36] at H
         have c36b0 : (a0_0 == 2) = true := beq_iff_eq.mpr c36
         have c36b1 : (a0_0 != 2) = false := bne_eq_false_iff_eq.mpr c36
         clear c36
         by_cases c37 : x3_1 = true
         ·subst c37
          have H1 : (if x4_10 = true then (if a0_2 ≤ 16 then (if (l0_3.length : Int) = (wrap64 (32 * a0_2)) then (some (!t270)) else (some false)) else (some false)) else (some false)) = some r := by rw [if_pos rfl] at H <;> exact H
          clear H
          have H := H1
          clear H1
          by_cases c38 : x4_10 = true
          ·subst c38
           have H1 : (if a0_2 ≤ 16 then (if (l0_3.length : Int) = (wrap64 (32 * a0_2)) then (some (!t270)) else (some false)) else (some false)) = some r := by rw [if_pos rfl] at H <;> exact H
           clear H
           have H := H1
           clear H1
           by_cases c39 : a0_2 ≤ 16
           ·rw [if_pos c39] at H
            have c39b0 : decide (a0_2 ≤ 16) = true := decide_eq_true c39
            clear c39
            by_cases c40 : (l0_3.length : Int) = (wrap64 (32 * a0_2))
            ·rw [if_pos c40] at H
             have c40b0 : ((l0_3.length : Int) == (wrap64 (32 * a0_2))) = true := beq_iff_eq.mpr c40
             have c40b1 : ((l0_3.length : Int) != (wrap64 (32 * a0_2))) = false := bne_eq_false_iff_eq.mpr c40
             clear c40
             obtain rfl := Option.some.inj H
             have hcz41_0 : wc.cell? ⟨gb269, 0, none⟩ = some (.int .i64 a0_0) := (blk_cell BK269.out 0).trans rfl
             have hcz41_1 : wc.cell? ⟨gb269, 1, none⟩ = some (.int .i64 a0_1) := (blk_cell BK269.out 1).trans rfl
             have hcz41_2 : wc.cell? ⟨gb269, 2, none⟩ = some (.int .i64 a0_2) := (blk_cell BK269.out 2).trans rfl
             have hcz41_3 : wc.cell? ⟨gb269, 3, none⟩ = some (.slice A0_3 l0_3.length c0_3) := (blk_cell BK269.out 3).trans rfl
             have hcz41_4 : wc.cell? ⟨gb269, 4, none⟩ = some (.int .i64 a0_4) := (blk_cell BK269.out 4).trans rfl
             have hcz41_5 : wc.cell? ⟨gb269, 5, none⟩ = some (.int .i64 a0_5) := (blk_cell BK269.out 5).trans rfl
             have hcz41_6 : wc.cell? ⟨gb269, 6, none⟩ = some (.int .i64 a0_6) := (blk_cell BK269.out 6).trans rfl
             have hfz41_0 := blk_frozen BK269.out 0
             have hfz41_1 := blk_frozen BK269.out 1
             have hfz41_2 := blk_frozen BK269.out 2
             have hfz41_3 := blk_frozen BK269.out 3
             have hfz41_4 := blk_frozen BK269.out 4
             have hfz41_5 := blk_frozen BK269.out 5
             have hfz41_6 := blk_frozen BK269.out 6
             go_wp2_with (first | ((with_reducible refine gate_callee (f := 50) rfl ?_); refine goesL_ (some 57) rfl rfl Try.func50 (by kernel_rfl) rfl #[.slice A0_3 l0_3.length c0_3] rfl (by (try simp only [List.map_toArray, List.map_cons, List.map_nil]); first | done | rfl | (simp only [List.length_drop, List.length_take]; rfl)) ?_; (with_reducible refine (waggonerref16_zeros.calls _ _ l0_3 t270 _ ?side1 ?side2 A23.out).mono ?_); (case side1 => repeat (first | exact (Kd.C_below HR0_3.out HB.out) | (with_reducible refine Kd.C_alloc ?_ _) | (with_reducible refine Kd.C_drewN ?_ _) | (with_reducible refine Kd.C_drew ?_))); (case side2 => exact HC0_3.out); rintro e w' ⟨rfl, ⟨nd, rfl⟩⟩; refine ⟨_, rfl, ?_⟩))
             go_ret
             exact ⟨by first | rfl | (simp [errW_none, errW_some] <;> rfl) | (simp [*, errW_none, errW_some] <;> rfl), by repeat (first | (with_reducible first | exact HB.out | apply below_alloc | apply pw_below_drewN | apply below_drew1 | refine below_set ?_ GE269.out) | exact HB.out)⟩
            ·rw [if_neg c40] at H
             have c40b0 : ((l0_3.length : Int) == (wrap64 (32 * a0_2))) = false := beq_eq_false_iff_ne.mpr c40
             have c40b1 : ((l0_3.length : Int) != (wrap64 (32 * a0_2))) = true := bne_iff_ne.mpr c40
             obtain rfl := Option.some.inj H
             have hcz42_0 : wc.cell? ⟨gb269, 0, none⟩ = some (.int .i64 a0_0) := (blk_cell BK269.out 0).trans rfl
             have hcz42_1 : wc.cell? ⟨gb269, 1, none⟩ = some (.int .i64 a0_1) := (blk_cell BK269.out 1).trans rfl
             have hcz42_2 : wc.cell? ⟨gb269, 2, none⟩ = some (.int .i64 a0_2) := (blk_cell BK269.out 2).trans rfl
             have hcz42_3 : wc.cell? ⟨gb269, 3, none⟩ = some (.slice A0_3 l0_3.length c0_3) := (blk_cell BK269.out 3).trans rfl
             have hcz42_4 : wc.cell? ⟨gb269, 4, none⟩ = some (.int .i64 a0_4) := (blk_cell BK269.out 4).trans rfl
             have hcz42_5 : wc.cell? ⟨gb269, 5, none⟩ = some (.int .i64 a0_5) := (blk_cell BK269.out 5).trans rfl
             have hcz42_6 : wc.cell? ⟨gb269, 6, none⟩ = some (.int .i64 a0_6) := (blk_cell BK269.out 6).trans rfl
             have hfz42_0 := blk_frozen BK269.out 0
             have hfz42_1 := blk_frozen BK269.out 1
             have hfz42_2 := blk_frozen BK269.out 2
             have hfz42_3 := blk_frozen BK269.out 3
             have hfz42_4 := blk_frozen BK269.out 4
             have hfz42_5 := blk_frozen BK269.out 5
             have hfz42_6 := blk_frozen BK269.out 6
             go_wp2_with (first | ((with_reducible refine gate_callee (f := 50) rfl ?_); refine goesL_ (some 57) rfl rfl Try.func50 (by kernel_rfl) rfl #[.slice A0_3 l0_3.length c0_3] rfl (by (try simp only [List.map_toArray, List.map_cons, List.map_nil]); first | done | rfl | (simp only [List.length_drop, List.length_take]; rfl)) ?_; (with_reducible refine (waggonerref16_zeros.calls _ _ l0_3 t270 _ ?side1 ?side2 A23.out).mono ?_); (case side1 => repeat (first | exact (Kd.C_below HR0_3.out HB.out) | (with_reducible refine Kd.C_alloc ?_ _) | (with_reducible refine Kd.C_drewN ?_ _) | (with_reducible refine Kd.C_drew ?_))); (case side2 => exact HC0_3.out); rintro e w' ⟨rfl, ⟨nd, rfl⟩⟩; refine ⟨_, rfl, ?_⟩))
             go_ret
             exact ⟨by first | rfl | (simp [errW_none, errW_some] <;> rfl) | (simp [*, errW_none, errW_some] <;> rfl), by repeat (first | (with_reducible first | exact HB.out | apply below_alloc | apply pw_below_drewN | apply below_drew1 | refine below_set ?_ GE269.out) | exact HB.out)⟩
           ·rw [if_neg c39] at H
            have c39b0 : decide (a0_2 ≤ 16) = false := decide_eq_false c39
            clear c39
            obtain rfl := Option.some.inj H
            have hcz43_0 : wc.cell? ⟨gb269, 0, none⟩ = some (.int .i64 a0_0) := (blk_cell BK269.out 0).trans rfl
            have hcz43_1 : wc.cell? ⟨gb269, 1, none⟩ = some (.int .i64 a0_1) := (blk_cell BK269.out 1).trans rfl
            have hcz43_2 : wc.cell? ⟨gb269, 2, none⟩ = some (.int .i64 a0_2) := (blk_cell BK269.out 2).trans rfl
            have hcz43_3 : wc.cell? ⟨gb269, 3, none⟩ = some (.slice A0_3 l0_3.length c0_3) := (blk_cell BK269.out 3).trans rfl
            have hcz43_4 : wc.cell? ⟨gb269, 4, none⟩ = some (.int .i64 a0_4) := (blk_cell BK269.out 4).trans rfl
            have hcz43_5 : wc.cell? ⟨gb269, 5, none⟩ = some (.int .i64 a0_5) := (blk_cell BK269.out 5).trans rfl
            have hcz43_6 : wc.cell? ⟨gb269, 6, none⟩ = some (.int .i64 a0_6) := (blk_cell BK269.out 6).trans rfl
            have hfz43_0 := blk_frozen BK269.out 0
            have hfz43_1 := blk_frozen BK269.out 1
            have hfz43_2 := blk_frozen BK269.out 2
            have hfz43_3 := blk_frozen BK269.out 3
            have hfz43_4 := blk_frozen BK269.out 4
            have hfz43_5 := blk_frozen BK269.out 5
            have hfz43_6 := blk_frozen BK269.out 6
            go_wp2_with (first | ((with_reducible refine gate_callee (f := 50) rfl ?_); refine goesL_ (some 57) rfl rfl Try.func50 (by kernel_rfl) rfl #[.slice A0_3 l0_3.length c0_3] rfl (by (try simp only [List.map_toArray, List.map_cons, List.map_nil]); first | done | rfl | (simp only [List.length_drop, List.length_take]; rfl)) ?_; (with_reducible refine (waggonerref16_zeros.calls _ _ l0_3 t270 _ ?side1 ?side2 A23.out).mono ?_); (case side1 => repeat (first | exact (Kd.C_below HR0_3.out HB.out) | (with_reducible refine Kd.C_alloc ?_ _) | (with_reducible refine Kd.C_drewN ?_ _) | (with_reducible refine Kd.C_drew ?_))); (case side2 => exact HC0_3.out); rintro e w' ⟨rfl, ⟨nd, rfl⟩⟩; refine ⟨_, rfl, ?_⟩))
            go_ret
            exact ⟨by first | rfl | (simp [errW_none, errW_some] <;> rfl) | (simp [*, errW_none, errW_some] <;> rfl), by repeat (first | (with_reducible first | exact HB.out | apply below_alloc | apply pw_below_drewN | apply below_drew1 | refine below_set ?_ GE269.out) | exact HB.out)⟩
          ·replace c38 := Bool.eq_false_iff.mpr c38
           subst c38
           have H1 : (some false) = some r := by rw [if_neg (show ¬ (false = true) by decide)] at H <;> exact H
           clear H
           have H := H1
           clear H1
           obtain rfl := Option.some.inj H
           have hcz44_0 : wc.cell? ⟨gb269, 0, none⟩ = some (.int .i64 a0_0) := (blk_cell BK269.out 0).trans rfl
           have hcz44_1 : wc.cell? ⟨gb269, 1, none⟩ = some (.int .i64 a0_1) := (blk_cell BK269.out 1).trans rfl
           have hcz44_2 : wc.cell? ⟨gb269, 2, none⟩ = some (.int .i64 a0_2) := (blk_cell BK269.out 2).trans rfl
           have hcz44_3 : wc.cell? ⟨gb269, 3, none⟩ = some (.slice A0_3 l0_3.length c0_3) := (blk_cell BK269.out 3).trans rfl
           have hcz44_4 : wc.cell? ⟨gb269, 4, none⟩ = some (.int .i64 a0_4) := (blk_cell BK269.out 4).trans rfl
           have hcz44_5 : wc.cell? ⟨gb269, 5, none⟩ = some (.int .i64 a0_5) := (blk_cell BK269.out 5).trans rfl
           have hcz44_6 : wc.cell? ⟨gb269, 6, none⟩ = some (.int .i64 a0_6) := (blk_cell BK269.out 6).trans rfl
           have hfz44_0 := blk_frozen BK269.out 0
           have hfz44_1 := blk_frozen BK269.out 1
           have hfz44_2 := blk_frozen BK269.out 2
           have hfz44_3 := blk_frozen BK269.out 3
           have hfz44_4 := blk_frozen BK269.out 4
           have hfz44_5 := blk_frozen BK269.out 5
           have hfz44_6 := blk_frozen BK269.out 6
           go_wp2_with (first | ((with_reducible refine gate_callee (f := 50) rfl ?_); refine goesL_ (some 57) rfl rfl Try.func50 (by kernel_rfl) rfl #[.slice A0_3 l0_3.length c0_3] rfl (by (try simp only [List.map_toArray, List.map_cons, List.map_nil]); first | done | rfl | (simp only [List.length_drop, List.length_take]; rfl)) ?_; (with_reducible refine (waggonerref16_zeros.calls _ _ l0_3 t270 _ ?side1 ?side2 A23.out).mono ?_); (case side1 => repeat (first | exact (Kd.C_below HR0_3.out HB.out) | (with_reducible refine Kd.C_alloc ?_ _) | (with_reducible refine Kd.C_drewN ?_ _) | (with_reducible refine Kd.C_drew ?_))); (case side2 => exact HC0_3.out); rintro e w' ⟨rfl, ⟨nd, rfl⟩⟩; refine ⟨_, rfl, ?_⟩))
           go_ret
           exact ⟨by first | rfl | (simp [errW_none, errW_some] <;> rfl) | (simp [*, errW_none, errW_some] <;> rfl), by repeat (first | (with_reducible first | exact HB.out | apply below_alloc | apply pw_below_drewN | apply below_drew1 | refine below_set ?_ GE269.out) | exact HB.out)⟩
         ·replace c37 := Bool.eq_false_iff.mpr c37
          subst c37
          have H1 : (some false) = some r := by rw [if_neg (show ¬ (false = true) by decide)] at H <;> exact H
          clear H
          have H := H1
          clear H1
          obtain rfl := Option.some.inj H
          have hcz45_0 : wc.cell? ⟨gb269, 0, none⟩ = some (.int .i64 a0_0) := (blk_cell BK269.out 0).trans rfl
          have hcz45_1 : wc.cell? ⟨gb269, 1, none⟩ = some (.int .i64 a0_1) := (blk_cell BK269.out 1).trans rfl
          have hcz45_2 : wc.cell? ⟨gb269, 2, none⟩ = some (.int .i64 a0_2) := (blk_cell BK269.out 2).trans rfl
          have hcz45_3 : wc.cell? ⟨gb269, 3, none⟩ = some (.slice A0_3 l0_3.length c0_3) := (blk_cell BK269.out 3).trans rfl
          have hcz45_4 : wc.cell? ⟨gb269, 4, none⟩ = some (.int .i64 a0_4) := (blk_cell BK269.out 4).trans rfl
          have hcz45_5 : wc.cell? ⟨gb269, 5, none⟩ = some (.int .i64 a0_5) := (blk_cell BK269.out 5).trans rfl
          have hcz45_6 : wc.cell? ⟨gb269, 6, none⟩ = some (.int .i64 a0_6) := (blk_cell BK269.out 6).trans rfl
          have hfz45_0 := blk_frozen BK269.out 0
          have hfz45_1 := blk_frozen BK269.out 1
          have hfz45_2 := blk_frozen BK269.out 2
          have hfz45_3 := blk_frozen BK269.out 3
          have hfz45_4 := blk_frozen BK269.out 4
          have hfz45_5 := blk_frozen BK269.out 5
          have hfz45_6 := blk_frozen BK269.out 6
          go_wp2_with (first | ((with_reducible refine gate_callee (f := 50) rfl ?_); refine goesL_ (some 57) rfl rfl Try.func50 (by kernel_rfl) rfl #[.slice A0_3 l0_3.length c0_3] rfl (by (try simp only [List.map_toArray, List.map_cons, List.map_nil]); first | done | rfl | (simp only [List.length_drop, List.length_take]; rfl)) ?_; (with_reducible refine (waggonerref16_zeros.calls _ _ l0_3 t270 _ ?side1 ?side2 A23.out).mono ?_); (case side1 => repeat (first | exact (Kd.C_below HR0_3.out HB.out) | (with_reducible refine Kd.C_alloc ?_ _) | (with_reducible refine Kd.C_drewN ?_ _) | (with_reducible refine Kd.C_drew ?_))); (case side2 => exact HC0_3.out); rintro e w' ⟨rfl, ⟨nd, rfl⟩⟩; refine ⟨_, rfl, ?_⟩))
          go_ret
          exact ⟨by first | rfl | (simp [errW_none, errW_some] <;> rfl) | (simp [*, errW_none, errW_some] <;> rfl), by repeat (first | (with_reducible first | exact HB.out | apply below_alloc | apply pw_below_drewN | apply below_drew1 | refine below_set ?_ GE269.out) | exact HB.out)⟩
        ·rw [if_neg c36] at H
         have c36b0 : (a0_0 == 2) = false := beq_eq_false_iff_ne.mpr c36
         have c36b1 : (a0_0 != 2) = true := bne_iff_ne.mpr c36
         have HC46 := Aside0.mk H
         clear H
         have hcz47_0 : wc.cell? ⟨gb269, 0, none⟩ = some (.int .i64 a0_0) := (blk_cell BK269.out 0).trans rfl
         have hcz47_1 : wc.cell? ⟨gb269, 1, none⟩ = some (.int .i64 a0_1) := (blk_cell BK269.out 1).trans rfl
         have hcz47_2 : wc.cell? ⟨gb269, 2, none⟩ = some (.int .i64 a0_2) := (blk_cell BK269.out 2).trans rfl
         have hcz47_3 : wc.cell? ⟨gb269, 3, none⟩ = some (.slice A0_3 l0_3.length c0_3) := (blk_cell BK269.out 3).trans rfl
         have hcz47_4 : wc.cell? ⟨gb269, 4, none⟩ = some (.int .i64 a0_4) := (blk_cell BK269.out 4).trans rfl
         have hcz47_5 : wc.cell? ⟨gb269, 5, none⟩ = some (.int .i64 a0_5) := (blk_cell BK269.out 5).trans rfl
         have hcz47_6 : wc.cell? ⟨gb269, 6, none⟩ = some (.int .i64 a0_6) := (blk_cell BK269.out 6).trans rfl
         have hfz47_0 := blk_frozen BK269.out 0
         have hfz47_1 := blk_frozen BK269.out 1
         have hfz47_2 := blk_frozen BK269.out 2
         have hfz47_3 := blk_frozen BK269.out 3
         have hfz47_4 := blk_frozen BK269.out 4
         have hfz47_5 := blk_frozen BK269.out 5
         have hfz47_6 := blk_frozen BK269.out 6
         go_upto_if 114 with (first | ((with_reducible refine gate_callee (f := 50) rfl ?_); refine goesL_ (some 57) rfl rfl Try.func50 (by kernel_rfl) rfl #[.slice A0_3 l0_3.length c0_3] rfl (by (try simp only [List.map_toArray, List.map_cons, List.map_nil]); first | done | rfl | (simp only [List.length_drop, List.length_take]; rfl)) ?_; (with_reducible refine (waggonerref16_zeros.calls _ _ l0_3 t270 _ ?side1 ?side2 A23.out).mono ?_); (case side1 => repeat (first | exact (Kd.C_below HR0_3.out HB.out) | (with_reducible refine Kd.C_alloc ?_ _) | (with_reducible refine Kd.C_drewN ?_ _) | (with_reducible refine Kd.C_drew ?_))); (case side2 => exact HC0_3.out); rintro e w' ⟨rfl, ⟨nd, rfl⟩⟩; refine ⟨_, rfl, ?_⟩))
         (try simp only [Act.put, Kx.sb, Kx.sz, Kx.ss])
         go_cut [114] (fun v114 wc => ∃ (kq : Nat) (x114_45 : Bool), v114 = .bool x114_45 ∧ Aside0 (waggonerref16_Check_p.j3 kq x3_1 x4_10 x5_16 a0_0 x114_45 a0_0 a0_1 a0_2 l0_3 a0_4 a0_5 a0_6 = some r) ∧ Aside0 (kq ≤ kj16) ∧ Aside0 (wc.heap[gb269]? = some (.cells #[.int .i64 a0_0, .int .i64 a0_1, .int .i64 a0_2, (.slice A0_3 l0_3.length c0_3), .int .i64 a0_4, .int .i64 a0_5, .int .i64 a0_6] 38 (0, 0))) ∧ Aside0 (Below w.heap.size w wc))
         case first =>
          have H := HC46.out
          clear HC46
          by_cases c48 : a0_0 = 3
          ·rw [if_pos c48] at H
           have c48b0 : (a0_0 == 3) = true := beq_iff_eq.mpr c48
           have c48b1 : (a0_0 != 3) = false := bne_eq_false_iff_eq.mpr c48
           clear c48
           (first | rw [c48b0] | (simp only [i64_w, i32_w]; rw [c48b0]) | skip)
           have H' := Aside0.mk H
           clear H
           go_wp2
           go_meet
           case rel => exact ⟨_, ((a0_0 == 3)), (by first | rfl | (simp; done) | (simp [*]; done)), H', ⟨by have := HJ1.out; have := HJ10.out; have := HJ16.out; first | omega | exact Nat.le_refl _⟩, ⟨by (with_reducible repeat (first | refine blk_drewN ?_ _ | refine blk_drew ?_ | refine blk_alloc ?_ _)); exact BK269.out⟩, ⟨by repeat (first | (with_reducible first | exact HB.out | apply below_alloc | apply pw_below_drewN | apply below_drew1 | refine below_set ?_ GE269.out) | exact HB.out)⟩⟩
          ·rw [if_neg c48] at H
           have c48b0 : (a0_0 == 3) = false := beq_eq_false_iff_ne.mpr c48
           have c48b1 : (a0_0 != 3) = true := bne_iff_ne.mpr c48
           (first | rw [c48b0] | (simp only [i64_w, i32_w]; rw [c48b0]) | skip)
           have H' := Aside0.mk H
           clear H
           go_wp2
           go_meet
           case rel => exact ⟨_, ((a0_0 == 4)), (by first | rfl | (simp; done) | (simp [*]; done)), H', ⟨by have := HJ1.out; have := HJ10.out; have := HJ16.out; first | omega | exact Nat.le_refl _⟩, ⟨by (with_reducible repeat (first | refine blk_drewN ?_ _ | refine blk_drew ?_ | refine blk_alloc ?_ _)); exact BK269.out⟩, ⟨by repeat (first | (with_reducible first | exact HB.out | apply below_alloc | apply pw_below_drewN | apply below_drew1 | refine below_set ?_ GE269.out) | exact HB.out)⟩⟩
         case rest =>
          clear HC46
          try clear c1
          try clear c2
          try clear p2
          try clear c3
          try clear c4
          try clear c4b0
          try clear c5
          try clear c5b0
          try clear c6
          try clear c6b0
          try clear p6
          try clear c12
          try clear c12b0
          try clear c12b1
          try clear c13
          try clear c13b0
          try clear c13b1
          try clear c18
          try clear c18b0
          try clear c18b1
          try clear c19
          try clear c19b0
          try clear c19b1
          try clear c24
          try clear c24b0
          try clear c24b1
          try clear c25
          try clear c26
          try clear c26b0
          try clear c27
          try clear c27b0
          try clear c28
          try clear c28b0
          try clear c29
          try clear c29b0
          try clear c36
          try clear c36b0
          try clear c36b1
          try clear c37
          try clear c38
          try clear c39
          try clear c39b0
          try clear c40
          try clear c40b0
          try clear c40b1
          try clear c48
          try clear c48b0
          try clear c48b1
          try clear hcz10_0
          try clear hcz10_1
          try clear hcz10_2
          try clear hcz10_3
          try clear hcz10_4
          try clear hcz10_5
          try clear hcz10_6
          try clear hcz14_0
          try clear hcz14_1
          try clear hcz14_2
          try clear hcz14_3
          try clear hcz14_4
          try clear hcz14_5
          try clear hcz14_6
          try clear hcz15_0
          try clear hcz15_1
          try clear hcz15_2
          try clear hcz15_3
          try clear hcz15_4
          try clear hcz15_5
          try clear hcz15_6
          try clear hcz16_0
          try clear hcz16_1
          try clear hcz16_2
          try clear hcz16_3
          try clear hcz16_4
          try clear hcz16_5
          try clear hcz16_6
          try clear hcz20_0
          try clear hcz20_1
          try clear hcz20_2
          try clear hcz20_3
          try clear hcz20_4
          try clear hcz20_5
          try clear hcz20_6
          try clear hcz21_0
          try clear hcz21_1
          try clear hcz21_2
          try clear hcz21_3
          try clear hcz21_4
          try clear hcz21_5
          try clear hcz21_6
          try clear hcz22_0
          try clear hcz22_1
          try clear hcz22_2
          try clear hcz22_3
          try clear hcz22_4
          try clear hcz22_5
          try clear hcz22_6
          try clear hcz30_0
          try clear hcz30_1
          try clear hcz30_2
          try clear hcz30_3
          try clear hcz30_4
          try clear hcz30_5
          try clear hcz30_6
          try clear hcz31_0
          try clear hcz31_1
          try clear hcz31_2
          try clear hcz31_3
          try clear hcz31_4
          try clear hcz31_5
          try clear hcz31_6
          try clear hcz32_0
          try clear hcz32_1
          try clear hcz32_2
          try clear hcz32_3
          try clear hcz32_4
          try clear hcz32_5
          try clear hcz32_6
          try clear hcz33_0
          try clear hcz33_1
          try clear hcz33_2
          try clear hcz33_3
          try clear hcz33_4
          try clear hcz33_5
          try clear hcz33_6
          try clear hcz34_0
          try clear hcz34_1
          try clear hcz34_2
          try clear hcz34_3
          try clear hcz34_4
          try clear hcz34_5
          try clear hcz34_6
          try clear hcz35_0
          try clear hcz35_1
          try clear hcz35_2
          try clear hcz35_3
          try clear hcz35_4
          try clear hcz35_5
          try clear hcz35_6
          try clear hcz41_0
          try clear hcz41_1
          try clear hcz41_2
          try clear hcz41_3
          try clear hcz41_4
          try clear hcz41_5
          try clear hcz41_6
          try clear hcz42_0
          try clear hcz42_1
          try clear hcz42_2
          try clear hcz42_3
          try clear hcz42_4
          try clear hcz42_5
          try clear hcz42_6
          try clear hcz43_0
          try clear hcz43_1
          try clear hcz43_2
          try clear hcz43_3
          try clear hcz43_4
          try clear hcz43_5
          try clear hcz43_6
          try clear hcz44_0
          try clear hcz44_1
          try clear hcz44_2
          try clear hcz44_3
          try clear hcz44_4
          try clear hcz44_5
          try clear hcz44_6
          try clear hcz45_0
          try clear hcz45_1
          try clear hcz45_2
          try clear hcz45_3
          try clear hcz45_4
          try clear hcz45_5
          try clear hcz45_6
          try clear hcz47_0
          try clear hcz47_1
          try clear hcz47_2
          try clear hcz47_3
          try clear hcz47_4
          try clear hcz47_5
          try clear hcz47_6
          try clear hcz7_0
          try clear hcz7_1
          try clear hcz7_2
          try clear hcz7_3
          try clear hcz7_4
          try clear hcz7_5
          try clear hcz7_6
          try clear hcz8_0
          try clear hcz8_1
          try clear hcz8_2
          try clear hcz8_3
          try clear hcz8_4
          try clear hcz8_5
          try clear hcz8_6
          try clear hcz9_0
          try clear hcz9_1
          try clear hcz9_2
          try clear hcz9_3
          try clear hcz9_4
          try clear hcz9_5
          try clear hcz9_6
          try clear hfz10_0
          try clear hfz10_1
          try clear hfz10_2
          try clear hfz10_3
          try clear hfz10_4
          try clear hfz10_5
          try clear hfz10_6
          try clear hfz14_0
          try clear hfz14_1
          try clear hfz14_2
          try clear hfz14_3
          try clear hfz14_4
          try clear hfz14_5
          try clear hfz14_6
          try clear hfz15_0
          try clear hfz15_1
          try clear hfz15_2
          try clear hfz15_3
          try clear hfz15_4
          try clear hfz15_5
          try clear hfz15_6
          try clear hfz16_0
          try clear hfz16_1
          try clear hfz16_2
          try clear hfz16_3
          try clear hfz16_4
          try clear hfz16_5
          try clear hfz16_6
          try clear hfz20_0
          try clear hfz20_1
          try clear hfz20_2
          try clear hfz20_3
          try clear hfz20_4
          try clear hfz20_5
          try clear hfz20_6
          try clear hfz21_0
          try clear hfz21_1
          try clear hfz21_2
          try clear hfz21_3
          try clear hfz21_4
          try clear hfz21_5
          try clear hfz21_6
          try clear hfz22_0
          try clear hfz22_1
          try clear hfz22_2
          try clear hfz22_3
          try clear hfz22_4
          try clear hfz22_5
          try clear hfz22_6
          try clear hfz30_0
          try clear hfz30_1
          try clear hfz30_2
          try clear hfz30_3
          try clear hfz30_4
          try clear hfz30_5
          try clear hfz30_6
          try clear hfz31_0
          try clear hfz31_1
          try clear hfz31_2
          try clear hfz31_3
          try clear hfz31_4
          try clear hfz31_5
          try clear hfz31_6
          try clear hfz32_0
          try clear hfz32_1
          try clear hfz32_2
          try clear hfz32_3
          try clear hfz32_4
          try clear hfz32_5
          try clear hfz32_6
          try clear hfz33_0
          try clear hfz33_1
          try clear hfz33_2
          try clear hfz33_3
          try clear hfz33_4
          try clear hfz33_5
          try clear hfz33_6
          try clear hfz34_0
          try clear hfz34_1
          try clear hfz34_2
          try clear hfz34_3
          try clear hfz34_4
          try clear hfz34_5
          try clear hfz34_6
          try clear hfz35_0
          try clear hfz35_1
          try clear hfz35_2
          try clear hfz35_3
          try clear hfz35_4
          try clear hfz35_5
          try clear hfz35_6
          try clear hfz41_0
          try clear hfz41_1
          try clear hfz41_2
          try clear hfz41_3
          try clear hfz41_4
          try clear hfz41_5
          try clear hfz41_6
          try clear hfz42_0
          try clear hfz42_1
          try clear hfz42_2
          try clear hfz42_3
          try clear hfz42_4
          try clear hfz42_5
          try clear hfz42_6
          try clear hfz43_0
          try clear hfz43_1
          try clear hfz43_2
          try clear hfz43_3
          try clear hfz43_4
          try clear hfz43_5
          try clear hfz43_6
          try clear hfz44_0
          try clear hfz44_1
          try clear hfz44_2
          try clear hfz44_3
          try clear hfz44_4
          try clear hfz44_5
          try clear hfz44_6
          try clear hfz45_0
          try clear hfz45_1
          try clear hfz45_2
          try clear hfz45_3
          try clear hfz45_4
          try clear hfz45_5
          try clear hfz45_6
          try clear hfz47_0
          try clear hfz47_1
          try clear hfz47_2
          try clear hfz47_3
          try clear hfz47_4
          try clear hfz47_5
          try clear hfz47_6
          try clear hfz7_0
          try clear hfz7_1
          try clear hfz7_2
          try clear hfz7_3
          try clear hfz7_4
          try clear hfz7_5
          try clear hfz7_6
          try clear hfz8_0
          try clear hfz8_1
          try clear hfz8_2
          try clear hfz8_3
          try clear hfz8_4
          try clear hfz8_5
          try clear hfz8_6
          try clear hfz9_0
          try clear hfz9_1
          try clear hfz9_2
          try clear hfz9_3
          try clear hfz9_4
          try clear hfz9_5
          try clear hfz9_6
          try clear p2
          try clear p6
          obtain ⟨kq, x114_45, rfl, HA, HJ45, BK269, HB⟩ := hcut
          cases kq with
          | zero => exact absurd HA.out (by simp [waggonerref16_Check_p.j3])
          | succ kj45 =>
           have H := HA.out
           clear HA
           simp only [waggonerref16_Check_p.j3] at H
           by_cases c49 : x114_45 = true
           ·subst c49
            have H1 : (if x3_1 = true then (if x4_10 = true then (some ((l0_3.length : Int) == 0)) else (some false)) else (some false)) = some r := by rw [if_pos rfl] at H <;> exact H
            clear H
            have H := H1
            clear H1
            by_cases c50 : x3_1 = true
            ·subst c50
             have H1 : (if x4_10 = true then (some ((l0_3.length : Int) == 0)) else (some false)) = some r := by rw [if_pos rfl] at H <;> exact H
             clear H
             have H := H1
             clear H1
             by_cases c51 : x4_10 = true
             ·subst c51
              have H1 : (some ((l0_3.length : Int) == 0)) = some r := by rw [if_pos rfl] at H <;> exact H
              clear H
              have H := H1
              clear H1
              obtain rfl := Option.some.inj H
              have hcz52_0 : wc.cell? ⟨gb269, 0, none⟩ = some (.int .i64 a0_0) := (blk_cell BK269.out 0).trans rfl
              have hcz52_1 : wc.cell? ⟨gb269, 1, none⟩ = some (.int .i64 a0_1) := (blk_cell BK269.out 1).trans rfl
              have hcz52_2 : wc.cell? ⟨gb269, 2, none⟩ = some (.int .i64 a0_2) := (blk_cell BK269.out 2).trans rfl
              have hcz52_3 : wc.cell? ⟨gb269, 3, none⟩ = some (.slice A0_3 l0_3.length c0_3) := (blk_cell BK269.out 3).trans rfl
              have hcz52_4 : wc.cell? ⟨gb269, 4, none⟩ = some (.int .i64 a0_4) := (blk_cell BK269.out 4).trans rfl
              have hcz52_5 : wc.cell? ⟨gb269, 5, none⟩ = some (.int .i64 a0_5) := (blk_cell BK269.out 5).trans rfl
              have hcz52_6 : wc.cell? ⟨gb269, 6, none⟩ = some (.int .i64 a0_6) := (blk_cell BK269.out 6).trans rfl
              have hfz52_0 := blk_frozen BK269.out 0
              have hfz52_1 := blk_frozen BK269.out 1
              have hfz52_2 := blk_frozen BK269.out 2
              have hfz52_3 := blk_frozen BK269.out 3
              have hfz52_4 := blk_frozen BK269.out 4
              have hfz52_5 := blk_frozen BK269.out 5
              have hfz52_6 := blk_frozen BK269.out 6
              go_wp2
              go_ret
              exact ⟨by first | rfl | (simp [errW_none, errW_some] <;> rfl) | (simp [*, errW_none, errW_some] <;> rfl), by repeat (first | (with_reducible first | exact HB.out | apply below_alloc | apply pw_below_drewN | apply below_drew1 | refine below_set ?_ GE269.out) | exact HB.out)⟩
             ·replace c51 := Bool.eq_false_iff.mpr c51
              subst c51
              have H1 : (some false) = some r := by rw [if_neg (show ¬ (false = true) by decide)] at H <;> exact H
              clear H
              have H := H1
              clear H1
              obtain rfl := Option.some.inj H
              go_wp2
              go_ret
              exact ⟨by first | rfl | (simp [errW_none, errW_some] <;> rfl) | (simp [*, errW_none, errW_some] <;> rfl), by repeat (first | (with_reducible first | exact HB.out | apply below_alloc | apply pw_below_drewN | apply below_drew1 | refine below_set ?_ GE269.out) | exact HB.out)⟩
            ·replace c50 := Bool.eq_false_iff.mpr c50
             subst c50
             have H1 : (some false) = some r := by rw [if_neg (show ¬ (false = true) by decide)] at H <;> exact H
             clear H
             have H := H1
             clear H1
             obtain rfl := Option.some.inj H
             go_wp2
             go_ret
             exact ⟨by first | rfl | (simp [errW_none, errW_some] <;> rfl) | (simp [*, errW_none, errW_some] <;> rfl), by repeat (first | (with_reducible first | exact HB.out | apply below_alloc | apply pw_below_drewN | apply below_drew1 | refine below_set ?_ GE269.out) | exact HB.out)⟩
           ·replace c49 := Bool.eq_false_iff.mpr c49
            subst c49
            have H1 : (if a0_0 = 5 then (if x5_16 = true then (if a0_4 ≥ 1 then (if a0_4 ≤ 65535 then (if a0_5 ≥ 0 then (if a0_5 < 4294967296 then (some (a0_6 == 0)) else (some false)) else (some false)) else (some false)) else (some false)) else (some false)) else (some false)) = some r := by rw [if_neg (show ¬ (false = true) by decide)] at H <;> exact H
            clear H
            have H := H1
            clear H1
            by_cases c53 : a0_0 = 5
            ·rw [if_pos c53] at H
             have c53b0 : (a0_0 == 5) = true := beq_iff_eq.mpr c53
             have c53b1 : (a0_0 != 5) = false := bne_eq_false_iff_eq.mpr c53
             clear c53
             by_cases c54 : x5_16 = true
             ·subst c54
              have H1 : (if a0_4 ≥ 1 then (if a0_4 ≤ 65535 then (if a0_5 ≥ 0 then (if a0_5 < 4294967296 then (some (a0_6 == 0)) else (some false)) else (some false)) else (some false)) else (some false)) = some r := by rw [if_pos rfl] at H <;> exact H
              clear H
              have H := H1
              clear H1
              by_cases c55 : a0_4 ≥ 1
              ·rw [if_pos c55] at H
               have c55b0 : decide (1 ≤ a0_4) = true := decide_eq_true c55
               clear c55
               by_cases c56 : a0_4 ≤ 65535
               ·rw [if_pos c56] at H
                have c56b0 : decide (a0_4 ≤ 65535) = true := decide_eq_true c56
                clear c56
                by_cases c57 : a0_5 ≥ 0
                ·rw [if_pos c57] at H
                 have c57b0 : decide (0 ≤ a0_5) = true := decide_eq_true c57
                 clear c57
                 by_cases c58 : a0_5 < 4294967296
                 ·rw [if_pos c58] at H
                  have c58b0 : decide (a0_5 < 4294967296) = true := decide_eq_true c58
                  clear c58
                  obtain rfl := Option.some.inj H
                  have hcz59_0 : wc.cell? ⟨gb269, 0, none⟩ = some (.int .i64 a0_0) := (blk_cell BK269.out 0).trans rfl
                  have hcz59_1 : wc.cell? ⟨gb269, 1, none⟩ = some (.int .i64 a0_1) := (blk_cell BK269.out 1).trans rfl
                  have hcz59_2 : wc.cell? ⟨gb269, 2, none⟩ = some (.int .i64 a0_2) := (blk_cell BK269.out 2).trans rfl
                  have hcz59_3 : wc.cell? ⟨gb269, 3, none⟩ = some (.slice A0_3 l0_3.length c0_3) := (blk_cell BK269.out 3).trans rfl
                  have hcz59_4 : wc.cell? ⟨gb269, 4, none⟩ = some (.int .i64 a0_4) := (blk_cell BK269.out 4).trans rfl
                  have hcz59_5 : wc.cell? ⟨gb269, 5, none⟩ = some (.int .i64 a0_5) := (blk_cell BK269.out 5).trans rfl
                  have hcz59_6 : wc.cell? ⟨gb269, 6, none⟩ = some (.int .i64 a0_6) := (blk_cell BK269.out 6).trans rfl
                  have hfz59_0 := blk_frozen BK269.out 0
                  have hfz59_1 := blk_frozen BK269.out 1
                  have hfz59_2 := blk_frozen BK269.out 2
                  have hfz59_3 := blk_frozen BK269.out 3
                  have hfz59_4 := blk_frozen BK269.out 4
                  have hfz59_5 := blk_frozen BK269.out 5
                  have hfz59_6 := blk_frozen BK269.out 6
                  go_wp2
                  go_ret
                  exact ⟨by first | rfl | (simp [errW_none, errW_some] <;> rfl) | (simp [*, errW_none, errW_some] <;> rfl), by repeat (first | (with_reducible first | exact HB.out | apply below_alloc | apply pw_below_drewN | apply below_drew1 | refine below_set ?_ GE269.out) | exact HB.out)⟩
                 ·rw [if_neg c58] at H
                  have c58b0 : decide (a0_5 < 4294967296) = false := decide_eq_false c58
                  clear c58
                  obtain rfl := Option.some.inj H
                  have hcz60_0 : wc.cell? ⟨gb269, 0, none⟩ = some (.int .i64 a0_0) := (blk_cell BK269.out 0).trans rfl
                  have hcz60_1 : wc.cell? ⟨gb269, 1, none⟩ = some (.int .i64 a0_1) := (blk_cell BK269.out 1).trans rfl
                  have hcz60_2 : wc.cell? ⟨gb269, 2, none⟩ = some (.int .i64 a0_2) := (blk_cell BK269.out 2).trans rfl
                  have hcz60_3 : wc.cell? ⟨gb269, 3, none⟩ = some (.slice A0_3 l0_3.length c0_3) := (blk_cell BK269.out 3).trans rfl
                  have hcz60_4 : wc.cell? ⟨gb269, 4, none⟩ = some (.int .i64 a0_4) := (blk_cell BK269.out 4).trans rfl
                  have hcz60_5 : wc.cell? ⟨gb269, 5, none⟩ = some (.int .i64 a0_5) := (blk_cell BK269.out 5).trans rfl
                  have hcz60_6 : wc.cell? ⟨gb269, 6, none⟩ = some (.int .i64 a0_6) := (blk_cell BK269.out 6).trans rfl
                  have hfz60_0 := blk_frozen BK269.out 0
                  have hfz60_1 := blk_frozen BK269.out 1
                  have hfz60_2 := blk_frozen BK269.out 2
                  have hfz60_3 := blk_frozen BK269.out 3
                  have hfz60_4 := blk_frozen BK269.out 4
                  have hfz60_5 := blk_frozen BK269.out 5
                  have hfz60_6 := blk_frozen BK269.out 6
                  go_wp2
                  go_ret
                  exact ⟨by first | rfl | (simp [errW_none, errW_some] <;> rfl) | (simp [*, errW_none, errW_some] <;> rfl), by repeat (first | (with_reducible first | exact HB.out | apply below_alloc | apply pw_below_drewN | apply below_drew1 | refine below_set ?_ GE269.out) | exact HB.out)⟩
                ·rw [if_neg c57] at H
                 have c57b0 : decide (0 ≤ a0_5) = false := decide_eq_false c57
                 clear c57
                 obtain rfl := Option.some.inj H
                 have hcz61_0 : wc.cell? ⟨gb269, 0, none⟩ = some (.int .i64 a0_0) := (blk_cell BK269.out 0).trans rfl
                 have hcz61_1 : wc.cell? ⟨gb269, 1, none⟩ = some (.int .i64 a0_1) := (blk_cell BK269.out 1).trans rfl
                 have hcz61_2 : wc.cell? ⟨gb269, 2, none⟩ = some (.int .i64 a0_2) := (blk_cell BK269.out 2).trans rfl
                 have hcz61_3 : wc.cell? ⟨gb269, 3, none⟩ = some (.slice A0_3 l0_3.length c0_3) := (blk_cell BK269.out 3).trans rfl
                 have hcz61_4 : wc.cell? ⟨gb269, 4, none⟩ = some (.int .i64 a0_4) := (blk_cell BK269.out 4).trans rfl
                 have hcz61_5 : wc.cell? ⟨gb269, 5, none⟩ = some (.int .i64 a0_5) := (blk_cell BK269.out 5).trans rfl
                 have hcz61_6 : wc.cell? ⟨gb269, 6, none⟩ = some (.int .i64 a0_6) := (blk_cell BK269.out 6).trans rfl
                 have hfz61_0 := blk_frozen BK269.out 0
                 have hfz61_1 := blk_frozen BK269.out 1
                 have hfz61_2 := blk_frozen BK269.out 2
                 have hfz61_3 := blk_frozen BK269.out 3
                 have hfz61_4 := blk_frozen BK269.out 4
                 have hfz61_5 := blk_frozen BK269.out 5
                 have hfz61_6 := blk_frozen BK269.out 6
                 go_wp2
                 go_ret
                 exact ⟨by first | rfl | (simp [errW_none, errW_some] <;> rfl) | (simp [*, errW_none, errW_some] <;> rfl), by repeat (first | (with_reducible first | exact HB.out | apply below_alloc | apply pw_below_drewN | apply below_drew1 | refine below_set ?_ GE269.out) | exact HB.out)⟩
               ·rw [if_neg c56] at H
                have c56b0 : decide (a0_4 ≤ 65535) = false := decide_eq_false c56
                clear c56
                obtain rfl := Option.some.inj H
                have hcz62_0 : wc.cell? ⟨gb269, 0, none⟩ = some (.int .i64 a0_0) := (blk_cell BK269.out 0).trans rfl
                have hcz62_1 : wc.cell? ⟨gb269, 1, none⟩ = some (.int .i64 a0_1) := (blk_cell BK269.out 1).trans rfl
                have hcz62_2 : wc.cell? ⟨gb269, 2, none⟩ = some (.int .i64 a0_2) := (blk_cell BK269.out 2).trans rfl
                have hcz62_3 : wc.cell? ⟨gb269, 3, none⟩ = some (.slice A0_3 l0_3.length c0_3) := (blk_cell BK269.out 3).trans rfl
                have hcz62_4 : wc.cell? ⟨gb269, 4, none⟩ = some (.int .i64 a0_4) := (blk_cell BK269.out 4).trans rfl
                have hcz62_5 : wc.cell? ⟨gb269, 5, none⟩ = some (.int .i64 a0_5) := (blk_cell BK269.out 5).trans rfl
                have hcz62_6 : wc.cell? ⟨gb269, 6, none⟩ = some (.int .i64 a0_6) := (blk_cell BK269.out 6).trans rfl
                have hfz62_0 := blk_frozen BK269.out 0
                have hfz62_1 := blk_frozen BK269.out 1
                have hfz62_2 := blk_frozen BK269.out 2
                have hfz62_3 := blk_frozen BK269.out 3
                have hfz62_4 := blk_frozen BK269.out 4
                have hfz62_5 := blk_frozen BK269.out 5
                have hfz62_6 := blk_frozen BK269.out 6
                go_wp2
                go_ret
                exact ⟨by first | rfl | (simp [errW_none, errW_some] <;> rfl) | (simp [*, errW_none, errW_some] <;> rfl), by repeat (first | (with_reducible first | exact HB.out | apply below_alloc | apply pw_below_drewN | apply below_drew1 | refine below_set ?_ GE269.out) | exact HB.out)⟩
              ·rw [if_neg c55] at H
               have c55b0 : decide (1 ≤ a0_4) = false := decide_eq_false c55
               clear c55
               obtain rfl := Option.some.inj H
               have hcz63_0 : wc.cell? ⟨gb269, 0, none⟩ = some (.int .i64 a0_0) := (blk_cell BK269.out 0).trans rfl
               have hcz63_1 : wc.cell? ⟨gb269, 1, none⟩ = some (.int .i64 a0_1) := (blk_cell BK269.out 1).trans rfl
               have hcz63_2 : wc.cell? ⟨gb269, 2, none⟩ = some (.int .i64 a0_2) := (blk_cell BK269.out 2).trans rfl
               have hcz63_3 : wc.cell? ⟨gb269, 3, none⟩ = some (.slice A0_3 l0_3.length c0_3) := (blk_cell BK269.out 3).trans rfl
               have hcz63_4 : wc.cell? ⟨gb269, 4, none⟩ = some (.int .i64 a0_4) := (blk_cell BK269.out 4).trans rfl
               have hcz63_5 : wc.cell? ⟨gb269, 5, none⟩ = some (.int .i64 a0_5) := (blk_cell BK269.out 5).trans rfl
               have hcz63_6 : wc.cell? ⟨gb269, 6, none⟩ = some (.int .i64 a0_6) := (blk_cell BK269.out 6).trans rfl
               have hfz63_0 := blk_frozen BK269.out 0
               have hfz63_1 := blk_frozen BK269.out 1
               have hfz63_2 := blk_frozen BK269.out 2
               have hfz63_3 := blk_frozen BK269.out 3
               have hfz63_4 := blk_frozen BK269.out 4
               have hfz63_5 := blk_frozen BK269.out 5
               have hfz63_6 := blk_frozen BK269.out 6
               go_wp2
               go_ret
               exact ⟨by first | rfl | (simp [errW_none, errW_some] <;> rfl) | (simp [*, errW_none, errW_some] <;> rfl), by repeat (first | (with_reducible first | exact HB.out | apply below_alloc | apply pw_below_drewN | apply below_drew1 | refine below_set ?_ GE269.out) | exact HB.out)⟩
             ·replace c54 := Bool.eq_false_iff.mpr c54
              subst c54
              have H1 : (some false) = some r := by rw [if_neg (show ¬ (false = true) by decide)] at H <;> exact H
              clear H
              have H := H1
              clear H1
              obtain rfl := Option.some.inj H
              go_wp2
              go_ret
              exact ⟨by first | rfl | (simp [errW_none, errW_some] <;> rfl) | (simp [*, errW_none, errW_some] <;> rfl), by repeat (first | (with_reducible first | exact HB.out | apply below_alloc | apply pw_below_drewN | apply below_drew1 | refine below_set ?_ GE269.out) | exact HB.out)⟩
            ·rw [if_neg c53] at H
             have c53b0 : (a0_0 == 5) = false := beq_eq_false_iff_ne.mpr c53
             have c53b1 : (a0_0 != 5) = true := bne_iff_ne.mpr c53
             obtain rfl := Option.some.inj H
             go_wp2
             go_ret
             exact ⟨by first | rfl | (simp [errW_none, errW_some] <;> rfl) | (simp [*, errW_none, errW_some] <;> rfl), by repeat (first | (with_reducible first | exact HB.out | apply below_alloc | apply pw_below_drewN | apply below_drew1 | refine below_set ?_ GE269.out) | exact HB.out)⟩
end Go.Proofs.Ytohkmmbmfhficaa.PT
