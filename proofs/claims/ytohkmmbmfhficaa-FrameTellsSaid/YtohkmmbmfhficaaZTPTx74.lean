/- Words and walks that this claim names, of those that the kit's print and programs of this workplace have printed. -/
import Derived.Test.YtohkmmbmfhficaaZTPTx11
import Derived.Test.YtohkmmbmfhficaaZTPTx67
import Derived.Test.YtohkmmbmfhficaaZTPTx73
namespace Go.Proofs.Ytohkmmbmfhficaa.PT
open Go.RowKit Go.Proofs.YtohkmmbmfhficaaW.PrintWords Go.Proofs.YtohkmmbmfhficaaW.PrintLast Go.Proofs.YtohkmmbmfhficaaW.PrintMore
attribute [local go_sem] max2_int min2_int max_two min_two max_three min_three max_four min_four
set_option linter.unusedVariables false
set_option linter.unusedSimpArgs false
def waggonerref16_Read_p.f (l0 : List Int) : Option (Int × Int × Int × List Int × Int × Int × Int × Int × Int) := if (l0.length : Int) < 3 then (some (0, 0, 0, ([] : List Int), 0, 0, 0, 0, 161)) else (if 1 < (l0.length : Int) then (if 2 < (l0.length : Int) then (if (l0.length : Int) < (wrap64 ((wrap64 ((wrap64 (rd l0 1)) + (wrap64 (256 * (wrap64 (rd l0 2)))))) + 7)) then (some (0, 0, 0, ([] : List Int), 0, 0, 0, 0, 161)) else (if 0 < (l0.length : Int) then (if 3 ≤ (wrap64 (3 + (wrap64 ((wrap64 (rd l0 1)) + (wrap64 (256 * (wrap64 (rd l0 2)))))))) then (if (wrap64 (3 + (wrap64 ((wrap64 (rd l0 1)) + (wrap64 (256 * (wrap64 (rd l0 2)))))))) ≤ (l0.length : Int) then ((waggonerref16_may.f (wrap64 (rd l0 0)) ((l0.take ((wrap64 (3 + (wrap64 ((wrap64 (rd l0 1)) + (wrap64 (256 * (wrap64 (rd l0 2)))))))) : Int).toNat).drop 3)).bind fun bt381 => ((waggonerref16_Write.f bt381.1 bt381.2.1 bt381.2.2.1 bt381.2.2.2.1 bt381.2.2.2.2.1 bt381.2.2.2.2.2.1 bt381.2.2.2.2.2.2).bind fun bt391 => (if bt391.2 = 0 then (if 0 ≤ (wrap64 ((wrap64 ((wrap64 (rd l0 1)) + (wrap64 (256 * (wrap64 (rd l0 2)))))) + 7)) then (if (wrap64 ((wrap64 ((wrap64 (rd l0 1)) + (wrap64 (256 * (wrap64 (rd l0 2)))))) + 7)) ≤ (l0.length : Int) then (if (strOfNums bt391.1).toList = (strOfNums (l0.take ((wrap64 ((wrap64 ((wrap64 (rd l0 1)) + (wrap64 (256 * (wrap64 (rd l0 2)))))) + 7)) : Int).toNat)).toList then (some (bt381.1, bt381.2.1, bt381.2.2.1, bt381.2.2.2.1, bt381.2.2.2.2.1, bt381.2.2.2.2.2.1, bt381.2.2.2.2.2.2, wrap64 ((wrap64 ((wrap64 (rd l0 1)) + (wrap64 (256 * (wrap64 (rd l0 2)))))) + 7), 0)) else (some (0, 0, 0, ([] : List Int), 0, 0, 0, 0, 160))) else (none)) else (none)) else (some (0, 0, 0, ([] : List Int), 0, 0, 0, 0, 160))))) else (none)) else (none)) else (none))) else (none)) else (none))
def waggonerref16_Read_p.T3 : Bool × List (List Nat × List Nat) := (true, [([], []), ([0], [0]), ([1], [1]), ([2], [2]), ([], []), ([4], [4]), ([5], [5]), ([6], [6]), ([7], [7]), ([3, 8], [3, 8]), ([9, 0, 1, 2, 3, 4, 5, 6, 7, 8, 9], [9])])
def waggonerref16_Read_p.B3 : List Nat := [0, 1, 3, 7, 0, 16, 48, 112, 240, 511, 1023]
theorem waggonerref16_Read_p.tab3 : rtab .any (opsOf Try.f22 3) = waggonerref16_Read_p.T3 := by kernel_rfl
theorem waggonerref16_Read_p.bits3 : waitsOk waggonerref16_Read_p.T3.2 waggonerref16_Read_p.B3 = true := by kernel_rfl
def waggonerref16_Read_p.T6 : Bool × List (List Nat × List Nat) := (true, [([], []), ([0], [0]), ([1], [1]), ([2], [2]), ([], []), ([], []), ([5], [5]), ([4, 6], [4, 6]), ([3, 7], [3, 7]), ([], []), ([9, 8, 8, 0, 1, 2, 3, 4, 5, 6, 7, 8, 9], [8, 9])])
def waggonerref16_Read_p.B6 : List Nat := [0, 1, 3, 7, 0, 0, 32, 112, 255, 0, 1023]
theorem waggonerref16_Read_p.tab6 : rtab .any (opsOf Try.f22 6) = waggonerref16_Read_p.T6 := by kernel_rfl
theorem waggonerref16_Read_p.bits6 : waitsOk waggonerref16_Read_p.T6.2 waggonerref16_Read_p.B6 = true := by kernel_rfl
def waggonerref16_Read_p.T8 : Bool × List (List Nat × List Nat) := (true, [([], []), ([0], [0]), ([1], [1]), ([2], [2]), ([3, 2], [2, 3]), ([2], [2]), ([2], [2]), ([6, 2], [2, 6]), ([5, 7, 2], [2, 5, 7]), ([8, 2], [2, 8]), ([4, 9, 2], [2, 4, 9]), ([2, 10], [2, 10])])
def waggonerref16_Read_p.B8 : List Nat := [0, 1, 3, 7, 15, 7, 7, 71, 231, 487, 1023, 2047]
theorem waggonerref16_Read_p.tab8 : rtab .any (opsOf Try.f22 8) = waggonerref16_Read_p.T8 := by kernel_rfl
theorem waggonerref16_Read_p.bits8 : waitsOk waggonerref16_Read_p.T8.2 waggonerref16_Read_p.B8 = true := by kernel_rfl
set_option maxHeartbeats 8000000 in
set_option maxRecDepth 100000 in
theorem waggonerref16_Read_p.calls (A0 : Option Addr) (c0 : Nat) (l0 : List Int) (r1 : Int) (r2 : Int) (r3 : Int) (r4 : List Int) (r5 : Int) (r6 : Int) (r7 : Int) (r8 : Int) (r9 : Int) (w : World) (hr0 : Kd.C (Kd.int .u8) w A0 l0.length l0) (hc0 : l0.length ≤ c0) (h : waggonerref16_Read_p.f l0 = some (r1, r2, r3, r4, r5, r6, r7, r8, r9)) :
  Calls Try.prog 22 #[.slice A0 l0.length c0] w fun e w' => ∃ v3_ : Value, e = .returned (.tuple #[.agg #[.int .i64 r1, .int .i64 r2, .int .i64 r3, v3_, .int .i64 r5, .int .i64 r6, .int .i64 r7], .int .i64 r8, .int .i64 r9]) ∧ Kd.R (Kd.int .u8) 5 w' w.heap.size (fun _ => True) v3_ r4 ∧ Below w.heap.size w w' := by
 have hu38 := Try.underlying38
 have HR0 := Aside0.mk hr0
 have HC0 := Aside0.mk hc0
 clear hr0 hc0
 have HB := Aside0.mk (Below.refl w.heap.size w)
 have H : (if (l0.length : Int) < 3 then (some (0, 0, 0, ([] : List Int), 0, 0, 0, 0, 161)) else (if 1 < (l0.length : Int) then (if 2 < (l0.length : Int) then (if (l0.length : Int) < (wrap64 ((wrap64 ((wrap64 (rd l0 1)) + (wrap64 (256 * (wrap64 (rd l0 2)))))) + 7)) then (some (0, 0, 0, ([] : List Int), 0, 0, 0, 0, 161)) else (if 0 < (l0.length : Int) then (if 3 ≤ (wrap64 (3 + (wrap64 ((wrap64 (rd l0 1)) + (wrap64 (256 * (wrap64 (rd l0 2)))))))) then (if (wrap64 (3 + (wrap64 ((wrap64 (rd l0 1)) + (wrap64 (256 * (wrap64 (rd l0 2)))))))) ≤ (l0.length : Int) then ((waggonerref16_may.f (wrap64 (rd l0 0)) ((l0.take ((wrap64 (3 + (wrap64 ((wrap64 (rd l0 1)) + (wrap64 (256 * (wrap64 (rd l0 2)))))))) : Int).toNat).drop 3)).bind fun bt381 => ((waggonerref16_Write.f bt381.1 bt381.2.1 bt381.2.2.1 bt381.2.2.2.1 bt381.2.2.2.2.1 bt381.2.2.2.2.2.1 bt381.2.2.2.2.2.2).bind fun bt391 => (if bt391.2 = 0 then (if 0 ≤ (wrap64 ((wrap64 ((wrap64 (rd l0 1)) + (wrap64 (256 * (wrap64 (rd l0 2)))))) + 7)) then (if (wrap64 ((wrap64 ((wrap64 (rd l0 1)) + (wrap64 (256 * (wrap64 (rd l0 2)))))) + 7)) ≤ (l0.length : Int) then (if (strOfNums bt391.1).toList = (strOfNums (l0.take ((wrap64 ((wrap64 ((wrap64 (rd l0 1)) + (wrap64 (256 * (wrap64 (rd l0 2)))))) + 7)) : Int).toNat)).toList then (some (bt381.1, bt381.2.1, bt381.2.2.1, bt381.2.2.2.1, bt381.2.2.2.2.1, bt381.2.2.2.2.2.1, bt381.2.2.2.2.2.2, wrap64 ((wrap64 ((wrap64 (rd l0 1)) + (wrap64 (256 * (wrap64 (rd l0 2)))))) + 7), 0)) else (some (0, 0, 0, ([] : List Int), 0, 0, 0, 0, 160))) else (none)) else (none)) else (some (0, 0, 0, ([] : List Int), 0, 0, 0, 0, 160))))) else (none)) else (none)) else (none))) else (none)) else (none))) = some (r1, r2, r3, r4, r5, r6, r7, r8, r9) := h
 clear h
 by_cases c2 : (l0.length : Int) < 3
 ·rw [if_pos c2] at H
  have c2b0 : decide ((l0.length : Int) < 3) = true := decide_eq_true c2
  have c2b1 : decide (l0.length < 3) = true := decide_eq_true (by omega)
  clear c2
  simp only [Option.some.injEq, Prod.mk.injEq] at H
  obtain ⟨rfl, rfl, rfl, rfl, rfl, rfl, rfl, rfl, rfl⟩ := H
  go_enter Try.func22, Try.ntmps22
  go_wp2_with (first | ((with_reducible refine gate_dst (N := 2) rfl ?_); refine box_event ?hg (N := 2) ?hd (cs := #[.int .i64 0, .int .i64 0, .int .i64 0, .slice none 0 0, .int .i64 0, .int .i64 0, .int .i64 0]) (t := 38) ?hr ?_; (case hd => rfl); (case hg => rfl); (case hr => first | (go_simp; done) | (go_simp; rfl)); intro gb376 hg w3 hbox hb; have n0_ := Aside0.mk (below_step (by repeat (first | (with_reducible first | exact HB.out | apply below_alloc | apply pw_below_drewN | apply below_drew1) | exact HB.out)) hb); have n1_ := Aside0.mk (hbox); have n2_ := Aside0.mk ((by rw [hg]; exact (below_size (by repeat (first | (with_reducible first | exact HB.out | apply below_alloc | apply pw_below_drewN | apply below_drew1) | exact HB.out))) : w.heap.size ≤ gb376)); have n3_ := Aside0.mk ((by rw [hg]; exact (below_size (by repeat (first | (with_reducible first | exact HB.out | apply below_alloc | apply pw_below_drewN | apply below_drew1) | exact HB.out))) : w.heap.size ≤ gb376)); clear HB; have HB := n0_; have BK376 := n1_; have GW376 := n2_; have GE376 := n3_; clear n0_ n1_ n2_ n3_; clear hb hbox hg; have hcz4_0 : w3.cell? ⟨gb376, 0, none⟩ = some (.int .i64 0) := (blk_cell BK376.out 0).trans rfl; have hcz4_1 : w3.cell? ⟨gb376, 1, none⟩ = some (.int .i64 0) := (blk_cell BK376.out 1).trans rfl; have hcz4_2 : w3.cell? ⟨gb376, 2, none⟩ = some (.int .i64 0) := (blk_cell BK376.out 2).trans rfl; have hcz4_3 : w3.cell? ⟨gb376, 3, none⟩ = some (.slice none 0 0) := (blk_cell BK376.out 3).trans rfl; have hcz4_4 : w3.cell? ⟨gb376, 4, none⟩ = some (.int .i64 0) := (blk_cell BK376.out 4).trans rfl; have hcz4_5 : w3.cell? ⟨gb376, 5, none⟩ = some (.int .i64 0) := (blk_cell BK376.out 5).trans rfl; have hcz4_6 : w3.cell? ⟨gb376, 6, none⟩ = some (.int .i64 0) := (blk_cell BK376.out 6).trans rfl; have hfz4_0 := blk_frozen BK376.out 0; have hfz4_1 := blk_frozen BK376.out 1; have hfz4_2 := blk_frozen BK376.out 2; have hfz4_3 := blk_frozen BK376.out 3; have hfz4_4 := blk_frozen BK376.out 4; have hfz4_5 := blk_frozen BK376.out 5; have hfz4_6 := blk_frozen BK376.out 6))
  refine bodyPost_ret (results_ctt rfl _ _ gb376 38 #[.int .i64 0, .int .i64 0, .int .i64 0, .slice none 0 0, .int .i64 0, .int .i64 0, .int .i64 0] (0, 0) _ rfl (by (with_reducible repeat (first | refine blk_drewN ?_ _ | refine blk_drew ?_ | refine blk_alloc ?_ _)); refine blk_put (cs := #[.int .i64 0, .int .i64 0, .int .i64 0, .slice none 0 0, .int .i64 0, .int .i64 0, .int .i64 0]) ?_ 6 _ rfl; (with_reducible repeat (first | refine blk_drewN ?_ _ | refine blk_drew ?_ | refine blk_alloc ?_ _)); refine blk_put (cs := #[.int .i64 0, .int .i64 0, .int .i64 0, .slice none 0 0, .int .i64 0, .int .i64 0, .int .i64 0]) ?_ 5 _ rfl; (with_reducible repeat (first | refine blk_drewN ?_ _ | refine blk_drew ?_ | refine blk_alloc ?_ _)); refine blk_put (cs := #[.int .i64 0, .int .i64 0, .int .i64 0, .slice none 0 0, .int .i64 0, .int .i64 0, .int .i64 0]) ?_ 4 _ rfl; (with_reducible repeat (first | refine blk_drewN ?_ _ | refine blk_drew ?_ | refine blk_alloc ?_ _)); refine blk_put (cs := #[.int .i64 0, .int .i64 0, .int .i64 0, .slice none 0 0, .int .i64 0, .int .i64 0, .int .i64 0]) ?_ 3 _ rfl; (with_reducible repeat (first | refine blk_drewN ?_ _ | refine blk_drew ?_ | refine blk_alloc ?_ _)); refine blk_put (cs := #[.int .i64 0, .int .i64 0, .int .i64 0, .slice none 0 0, .int .i64 0, .int .i64 0, .int .i64 0]) ?_ 2 _ rfl; (with_reducible repeat (first | refine blk_drewN ?_ _ | refine blk_drew ?_ | refine blk_alloc ?_ _)); refine blk_put (cs := #[.int .i64 0, .int .i64 0, .int .i64 0, .slice none 0 0, .int .i64 0, .int .i64 0, .int .i64 0]) ?_ 1 _ rfl; (with_reducible repeat (first | refine blk_drewN ?_ _ | refine blk_drew ?_ | refine blk_alloc ?_ _)); refine blk_put (cs := #[.int .i64 0, .int .i64 0, .int .i64 0, .slice none 0 0, .int .i64 0, .int .i64 0, .int .i64 0]) ?_ 0 _ rfl; (with_reducible repeat (first | refine blk_drewN ?_ _ | refine blk_drew ?_ | refine blk_alloc ?_ _)); exact BK376.out) Try.underlying38 rfl (by kernel_rfl)) rfl ?_
  exact ⟨_, by first | rfl | (simp [errW_none, errW_some] <;> rfl) | (simp [*, errW_none, errW_some] <;> rfl), by first | exact Kd.R_nil _ _ _ _ _ | exact Kd.N_nil _ _ _ _ _ | exact Kd.V_nil _ _ _ _ _ | exact Kd.Q_nil _ _ _ _ _ | exact Kd.S_nil _ _ _ _ _, by repeat (first | (with_reducible first | exact HB.out | apply below_alloc | apply pw_below_drewN | apply below_drew1 | refine below_set ?_ GE376.out) | exact HB.out)⟩
 ·rw [if_neg c2] at H
  have c2b0 : decide ((l0.length : Int) < 3) = false := decide_eq_false c2
  have c2b1 : decide (l0.length < 3) = false := decide_eq_false (by omega)
  clear c2
  by_cases c5 : 1 < (l0.length : Int)
  ·rw [if_pos c5] at H
   have c5b0 : decide (1 < (l0.length : Int)) = true := decide_eq_true c5
   have c5b1 : decide (1 < l0.length) = true := decide_eq_true (by omega)
   clear c5
   by_cases c6 : 2 < (l0.length : Int)
   ·rw [if_pos c6] at H
    have c6b0 : decide (2 < (l0.length : Int)) = true := decide_eq_true c6
    have c6b1 : decide (2 < l0.length) = true := decide_eq_true (by omega)
    clear c6
    by_cases c7 : (l0.length : Int) < (wrap64 ((wrap64 ((wrap64 (rd l0 1)) + (wrap64 (256 * (wrap64 (rd l0 2)))))) + 7))
    ·rw [if_pos c7] at H
     have c7b0 : decide ((l0.length : Int) < (wrap64 ((wrap64 ((wrap64 (rd l0 1)) + (wrap64 (256 * (wrap64 (rd l0 2)))))) + 7))) = true := decide_eq_true c7
     clear c7
     simp only [Option.some.injEq, Prod.mk.injEq] at H
     obtain ⟨rfl, rfl, rfl, rfl, rfl, rfl, rfl, rfl, rfl⟩ := H
     go_enter Try.func22, Try.ntmps22
     try go_wp2_with (first | ((with_reducible refine gate_dst (N := 2) rfl ?_); refine box_event ?hg (N := 2) ?hd (cs := #[.int .i64 0, .int .i64 0, .int .i64 0, .slice none 0 0, .int .i64 0, .int .i64 0, .int .i64 0]) (t := 38) ?hr ?_; (case hd => rfl); (case hg => rfl); (case hr => first | (go_simp; done) | (go_simp; rfl)); intro gb376 hg w8 hbox hb; have n0_ := Aside0.mk (below_step (by repeat (first | (with_reducible first | exact HB.out | apply below_alloc | apply pw_below_drewN | apply below_drew1) | exact HB.out)) hb); have n1_ := Aside0.mk (hbox); have n2_ := Aside0.mk ((by rw [hg]; exact (below_size (by repeat (first | (with_reducible first | exact HB.out | apply below_alloc | apply pw_below_drewN | apply below_drew1) | exact HB.out))) : w.heap.size ≤ gb376)); have n3_ := Aside0.mk ((by rw [hg]; exact (below_size (by repeat (first | (with_reducible first | exact HB.out | apply below_alloc | apply pw_below_drewN | apply below_drew1) | exact HB.out))) : w.heap.size ≤ gb376)); clear HB; have HB := n0_; have BK376 := n1_; have GW376 := n2_; have GE376 := n3_; clear n0_ n1_ n2_ n3_; clear hb hbox hg))
     have n0_ := Aside0.mk (blk_drew BK376.out)
     have n1_ := Aside0.mk (below_drew1 HB.out)
     clear BK376
     clear HB
     have BK376 := n0_
     have HB := n1_
     clear n0_ n1_
     have p377 : 0 ≤ (1 : Int) := (by omega)
     have q377 : 1 < (l0.length : Int) := of_decide_eq_true (by first | (with_reducible assumption) | assumption)
     obtain ⟨ad377, e377, hx377_0⟩ := Kd.at_int HR0.out 1 p377 q377
     have hw377_0 := hx377_0
     (try rw [show ((1 : Int)).toNat = 1 from rfl] at hw377_0)
     (try rw [show 1 * 1 = 1 from rfl] at hw377_0)
     (try simp only [Nat.reduceMul, Nat.reduceEqDiff, Go.Addr.add, ↓reduceIte] at hw377_0)
     cases e377
     (try simp only [show (1 : Int).toNat = 1 from rfl, Nat.reduceMul, Nat.reduceEqDiff, Go.Addr.add, ↓reduceIte] at hx377_0)
     have qi377 : (1 < l0.length) = True := eq_true (by omega)
     (try rw [show ((1 : Int)).toNat = 1 from rfl] at hx377_0)
     replace hx377_0 := (HB.out.cell (World.block_lt_of_cell? w _ hx377_0)).trans hx377_0
     replace p377 := eq_true p377
     replace q377 := eq_true q377
     have p378 : 0 ≤ (2 : Int) := (by omega)
     have q378 : 2 < (l0.length : Int) := of_decide_eq_true (by first | (with_reducible assumption) | assumption)
     obtain ⟨ad378, e378, hx378_0⟩ := Kd.at_int HR0.out 2 p378 q378
     have hw378_0 := hx378_0
     (try rw [show ((2 : Int)).toNat = 2 from rfl] at hw378_0)
     (try rw [show 2 * 1 = 2 from rfl] at hw378_0)
     (try simp only [Nat.reduceMul, Nat.reduceEqDiff, Go.Addr.add, ↓reduceIte] at hw378_0)
     obtain rfl : ad377 = ad378 := (by injection e378)
     (try simp only [show (2 : Int).toNat = 2 from rfl, Nat.reduceMul, Nat.reduceEqDiff, Go.Addr.add, ↓reduceIte] at hx378_0)
     have qi378 : (2 < l0.length) = True := eq_true (by omega)
     (try rw [show ((2 : Int)).toNat = 2 from rfl] at hx378_0)
     replace hx378_0 := (HB.out.cell (World.block_lt_of_cell? w _ hx378_0)).trans hx378_0
     replace p378 := eq_true p378
     replace q378 := eq_true q378
     refine start_ (n := 11) (S := fun w' => w'.cell? ⟨ad377.block, ad377.off + 1, none⟩ = some (.int .u8 (rd l0 1)) ∧ w'.cell? ⟨ad377.block, ad377.off + 2, none⟩ = some (.int .u8 (rd l0 2))) (ds := []) #[false, false, false, false, false, false, false, false, false, false, false] (by kernel_rfl) rfl rfl ⟨((HB.out.cell (World.block_lt_of_cell? w _ hw377_0)).trans hw377_0), ((HB.out.cell (World.block_lt_of_cell? w _ hw378_0)).trans hw378_0)⟩ (fun hHeld => ?_); refine with_tabW waggonerref16_Read_p.tab3 waggonerref16_Read_p.bits3 (fun HT_ HW_ => ?_)
     generalize w8.drew = w9 at BK376 HB hx377_0 hx378_0 hHeld ⊢
     refine pure_ (i := 0) (N := some 13) (v := ?_) (a' := ?_) #[true, false, false, false, false, false, false, false, false, false, false] rfl rfl (any_of HT_.out (by kernel_rfl)) (fun _ _ _ h => h) (Or.inl ⟨by rfl, ?_⟩) ?_ ?_
     rotate_left
     ·intro w'
      go_simp
      with_reducible rfl
     rotate_left
     ·simp only [Act.put, Kx.sb, Kx.sz, Kx.ss, i64_w, i32_w]
      rfl
     refine pure_ (i := 1) (N := some 14) (v := ?_) (a' := ?_) #[true, true, false, false, false, false, false, false, false, false, false] rfl rfl (any_of HT_.out (by kernel_rfl)) (fun _ _ _ h => h) (Or.inl ⟨by rfl, ?_⟩) ?_ ?_
     rotate_left
     ·intro w'
      go_simp
      with_reducible rfl
     rotate_left
     ·simp only [Act.put, Kx.sb, Kx.sz, Kx.ss, i64_w, i32_w]
      rfl
     refine pure_ (i := 4) (N := some 17) (v := ?_) (a' := ?_) #[true, true, false, false, true, false, false, false, false, false, false] rfl rfl (any_of HT_.out (by kernel_rfl)) (fun _ _ _ h => h) (Or.inl ⟨by rfl, ?_⟩) ?_ ?_
     rotate_left
     ·intro w'
      go_simp
      with_reducible rfl
     rotate_left
     ·simp only [Act.put, Kx.sb, Kx.sz, Kx.ss, i64_w, i32_w]
      rfl
     refine pure_ (i := 5) (N := some 18) (v := ?_) (a' := ?_) #[true, true, false, false, true, true, false, false, false, false, false] rfl rfl (any_of HT_.out (by kernel_rfl)) (fun _ _ _ h => h) (Or.inl ⟨by rfl, ?_⟩) ?_ ?_
     rotate_left
     ·intro w'
      go_simp
      with_reducible rfl
     rotate_left
     ·simp only [Act.put, Kx.sb, Kx.sz, Kx.ss, i64_w, i32_w]
      rfl
     refine take_ (i := 2) (N := some 15) (v := ?_) (a' := ?_) #[true, true, true, false, true, true, false, false, false, false, false] rfl rfl (take_ofW HT_.out HW_.out (by kernel_rfl)) (fun _ _ _ h => h) (Or.inl ⟨by rfl, ?_⟩) hHeld ?_ ?_
     rotate_left
     ·rintro w' ⟨s0, s1⟩
      go_simp
      with_reducible rfl
     rotate_left
     ·simp only [Act.put, Kx.sb, Kx.sz, Kx.ss, i64_w, i32_w]
      rfl
     refine pure_ (i := 3) (N := some 16) (v := ?_) (a' := ?_) #[true, true, true, true, true, true, false, false, false, false, false] rfl rfl (any_of HT_.out (by kernel_rfl)) (fun _ _ _ h => h) (Or.inl ⟨by rfl, ?_⟩) ?_ ?_
     rotate_left
     ·intro w'
      go_simp
      with_reducible rfl
     rotate_left
     ·simp only [Act.put, Kx.sb, Kx.sz, Kx.ss, i64_w, i32_w]
      rfl
     refine take_ (i := 6) (N := some 19) (v := ?_) (a' := ?_) #[true, true, true, true, true, true, true, false, false, false, false] rfl rfl (take_ofW HT_.out HW_.out (by kernel_rfl)) (fun _ _ _ h => h) (Or.inl ⟨by rfl, ?_⟩) hHeld ?_ ?_
     rotate_left
     ·rintro w' ⟨s0, s1⟩
      go_simp
      with_reducible rfl
     rotate_left
     ·simp only [Act.put, Kx.sb, Kx.sz, Kx.ss, i64_w, i32_w]
      rfl
     refine pure_ (i := 7) (N := some 20) (v := ?_) (a' := ?_) #[true, true, true, true, true, true, true, true, false, false, false] rfl rfl (any_of HT_.out (by kernel_rfl)) (fun _ _ _ h => h) (Or.inl ⟨by rfl, ?_⟩) ?_ ?_
     rotate_left
     ·intro w'
      go_simp
      with_reducible rfl
     rotate_left
     ·simp only [Act.put, Kx.sb, Kx.sz, Kx.ss, i64_w, i32_w]
      rfl
     refine pure_ (i := 8) (N := some 21) (v := ?_) (a' := ?_) #[true, true, true, true, true, true, true, true, true, false, false] rfl rfl (any_of HT_.out (by kernel_rfl)) (fun _ _ _ h => h) (Or.inl ⟨by rfl, ?_⟩) ?_ ?_
     rotate_left
     ·intro w'
      go_simp
      with_reducible rfl
     rotate_left
     ·simp only [Act.put, Kx.sb, Kx.sz, Kx.ss, i64_w, i32_w]
      rfl
     refine pure_ (i := 9) (N := some 22) (v := ?_) (a' := ?_) #[true, true, true, true, true, true, true, true, true, true, false] rfl rfl (any_of HT_.out (by kernel_rfl)) (fun _ _ _ h => h) (Or.inl ⟨by rfl, ?_⟩) ?_ ?_
     rotate_left
     ·intro w'
      go_simp
      with_reducible rfl
     rotate_left
     ·simp only [Act.put, Kx.sb, Kx.sz, Kx.ss, i64_w, i32_w]
      rfl
     refine pure_ (i := 10) (N := some 5) (v := ?_) (a' := ?_) #[true, true, true, true, true, true, true, true, true, true, true] rfl rfl (any_of HT_.out (by kernel_rfl)) (fun _ _ _ h => h) (Or.inl ⟨by rfl, ?_⟩) ?_ ?_
     rotate_left
     ·intro w'
      go_simp
      with_reducible rfl
     rotate_left
     ·simp only [Act.put, Kx.sb, Kx.sz, Kx.ss, i64_w, i32_w]
      rfl
     refine done_ (done_of HT_.out (by kernel_rfl)) ?_
     have hcz10_0 : w9.cell? ⟨gb376, 0, none⟩ = some (.int .i64 0) := (blk_cell BK376.out 0).trans rfl
     have hcz10_1 : w9.cell? ⟨gb376, 1, none⟩ = some (.int .i64 0) := (blk_cell BK376.out 1).trans rfl
     have hcz10_2 : w9.cell? ⟨gb376, 2, none⟩ = some (.int .i64 0) := (blk_cell BK376.out 2).trans rfl
     have hcz10_3 : w9.cell? ⟨gb376, 3, none⟩ = some (.slice none 0 0) := (blk_cell BK376.out 3).trans rfl
     have hcz10_4 : w9.cell? ⟨gb376, 4, none⟩ = some (.int .i64 0) := (blk_cell BK376.out 4).trans rfl
     have hcz10_5 : w9.cell? ⟨gb376, 5, none⟩ = some (.int .i64 0) := (blk_cell BK376.out 5).trans rfl
     have hcz10_6 : w9.cell? ⟨gb376, 6, none⟩ = some (.int .i64 0) := (blk_cell BK376.out 6).trans rfl
     have hfz10_0 := blk_frozen BK376.out 0
     have hfz10_1 := blk_frozen BK376.out 1
     have hfz10_2 := blk_frozen BK376.out 2
     have hfz10_3 := blk_frozen BK376.out 3
     have hfz10_4 := blk_frozen BK376.out 4
     have hfz10_5 := blk_frozen BK376.out 5
     have hfz10_6 := blk_frozen BK376.out 6
     try go_wp2
     refine bodyPost_ret (results_ctt rfl _ _ gb376 38 #[.int .i64 0, .int .i64 0, .int .i64 0, .slice none 0 0, .int .i64 0, .int .i64 0, .int .i64 0] (0, 0) _ rfl (by (with_reducible repeat (first | refine blk_drewN ?_ _ | refine blk_drew ?_ | refine blk_alloc ?_ _)); refine blk_put (cs := #[.int .i64 0, .int .i64 0, .int .i64 0, .slice none 0 0, .int .i64 0, .int .i64 0, .int .i64 0]) ?_ 6 _ rfl; (with_reducible repeat (first | refine blk_drewN ?_ _ | refine blk_drew ?_ | refine blk_alloc ?_ _)); refine blk_put (cs := #[.int .i64 0, .int .i64 0, .int .i64 0, .slice none 0 0, .int .i64 0, .int .i64 0, .int .i64 0]) ?_ 5 _ rfl; (with_reducible repeat (first | refine blk_drewN ?_ _ | refine blk_drew ?_ | refine blk_alloc ?_ _)); refine blk_put (cs := #[.int .i64 0, .int .i64 0, .int .i64 0, .slice none 0 0, .int .i64 0, .int .i64 0, .int .i64 0]) ?_ 4 _ rfl; (with_reducible repeat (first | refine blk_drewN ?_ _ | refine blk_drew ?_ | refine blk_alloc ?_ _)); refine blk_put (cs := #[.int .i64 0, .int .i64 0, .int .i64 0, .slice none 0 0, .int .i64 0, .int .i64 0, .int .i64 0]) ?_ 3 _ rfl; (with_reducible repeat (first | refine blk_drewN ?_ _ | refine blk_drew ?_ | refine blk_alloc ?_ _)); refine blk_put (cs := #[.int .i64 0, .int .i64 0, .int .i64 0, .slice none 0 0, .int .i64 0, .int .i64 0, .int .i64 0]) ?_ 2 _ rfl; (with_reducible repeat (first | refine blk_drewN ?_ _ | refine blk_drew ?_ | refine blk_alloc ?_ _)); refine blk_put (cs := #[.int .i64 0, .int .i64 0, .int .i64 0, .slice none 0 0, .int .i64 0, .int .i64 0, .int .i64 0]) ?_ 1 _ rfl; (with_reducible repeat (first | refine blk_drewN ?_ _ | refine blk_drew ?_ | refine blk_alloc ?_ _)); refine blk_put (cs := #[.int .i64 0, .int .i64 0, .int .i64 0, .slice none 0 0, .int .i64 0, .int .i64 0, .int .i64 0]) ?_ 0 _ rfl; (with_reducible repeat (first | refine blk_drewN ?_ _ | refine blk_drew ?_ | refine blk_alloc ?_ _)); exact BK376.out) Try.underlying38 rfl (by kernel_rfl)) rfl ?_
     exact ⟨_, by first | rfl | (simp [errW_none, errW_some] <;> rfl) | (simp [*, errW_none, errW_some] <;> rfl), by first | exact Kd.R_nil _ _ _ _ _ | exact Kd.N_nil _ _ _ _ _ | exact Kd.V_nil _ _ _ _ _ | exact Kd.Q_nil _ _ _ _ _ | exact Kd.S_nil _ _ _ _ _, by repeat (first | (with_reducible first | exact HB.out | apply below_alloc | apply pw_below_drewN | apply below_drew1 | refine below_set ?_ GE376.out) | exact HB.out)⟩
    ·rw [if_neg c7] at H
     have c7b0 : decide ((l0.length : Int) < (wrap64 ((wrap64 ((wrap64 (rd l0 1)) + (wrap64 (256 * (wrap64 (rd l0 2)))))) + 7))) = false := decide_eq_false c7
     clear c7
     by_cases c11 : 0 < (l0.length : Int)
     ·rw [if_pos c11] at H
      have c11b0 : decide (0 < (l0.length : Int)) = true := decide_eq_true c11
      have c11b1 : decide (0 < l0.length) = true := decide_eq_true (by omega)
      clear c11
      by_cases c12 : 3 ≤ (wrap64 (3 + (wrap64 ((wrap64 (rd l0 1)) + (wrap64 (256 * (wrap64 (rd l0 2))))))))
      ·rw [if_pos c12] at H
       have c12b0 := eq_true c12
       have c12b1 : decide (3 ≤ (wrap64 (3 + (wrap64 ((wrap64 (rd l0 1)) + (wrap64 (256 * (wrap64 (rd l0 2))))))))) = true := decide_eq_true c12
       by_cases c13 : (wrap64 (3 + (wrap64 ((wrap64 (rd l0 1)) + (wrap64 (256 * (wrap64 (rd l0 2)))))))) ≤ (l0.length : Int)
       ·rw [if_pos c13] at H
        have c13b0 := eq_true c13
        have c13b1 : decide ((wrap64 (3 + (wrap64 ((wrap64 (rd l0 1)) + (wrap64 (256 * (wrap64 (rd l0 2)))))))) ≤ (l0.length : Int)) = true := decide_eq_true c13
        replace H := Option.bind_eq_some_iff.mp H
        obtain ⟨⟨t381, t382, t383, t384, t387, t388, t389⟩, A140, H⟩ := H
        replace H : ((waggonerref16_Write.f t381 t382 t383 t384 t387 t388 t389).bind fun bt391 => (if bt391.2 = 0 then (if 0 ≤ (wrap64 ((wrap64 ((wrap64 (rd l0 1)) + (wrap64 (256 * (wrap64 (rd l0 2)))))) + 7)) then (if (wrap64 ((wrap64 ((wrap64 (rd l0 1)) + (wrap64 (256 * (wrap64 (rd l0 2)))))) + 7)) ≤ (l0.length : Int) then (if (strOfNums bt391.1).toList = (strOfNums (l0.take ((wrap64 ((wrap64 ((wrap64 (rd l0 1)) + (wrap64 (256 * (wrap64 (rd l0 2)))))) + 7)) : Int).toNat)).toList then (some (t381, t382, t383, t384, t387, t388, t389, wrap64 ((wrap64 ((wrap64 (rd l0 1)) + (wrap64 (256 * (wrap64 (rd l0 2)))))) + 7), 0)) else (some (0, 0, 0, ([] : List Int), 0, 0, 0, 0, 160))) else (none)) else (none)) else (some (0, 0, 0, ([] : List Int), 0, 0, 0, 0, 160)))) = some (r1, r2, r3, r4, r5, r6, r7, r8, r9) := H
        have A14 := Aside0.mk A140
        clear A140
        replace H := Option.bind_eq_some_iff.mp H
        obtain ⟨⟨t391, t394⟩, A150, H⟩ := H
        replace H : (if t394 = 0 then (if 0 ≤ (wrap64 ((wrap64 ((wrap64 (rd l0 1)) + (wrap64 (256 * (wrap64 (rd l0 2)))))) + 7)) then (if (wrap64 ((wrap64 ((wrap64 (rd l0 1)) + (wrap64 (256 * (wrap64 (rd l0 2)))))) + 7)) ≤ (l0.length : Int) then (if (strOfNums t391).toList = (strOfNums (l0.take ((wrap64 ((wrap64 ((wrap64 (rd l0 1)) + (wrap64 (256 * (wrap64 (rd l0 2)))))) + 7)) : Int).toNat)).toList then (some (t381, t382, t383, t384, t387, t388, t389, wrap64 ((wrap64 ((wrap64 (rd l0 1)) + (wrap64 (256 * (wrap64 (rd l0 2)))))) + 7), 0)) else (some (0, 0, 0, ([] : List Int), 0, 0, 0, 0, 160))) else (none)) else (none)) else (some (0, 0, 0, ([] : List Int), 0, 0, 0, 0, 160))) = some (r1, r2, r3, r4, r5, r6, r7, r8, r9) := H
        have A15 := Aside0.mk A150
        clear A150
        by_cases c16 : t394 = 0
        ·rw [if_pos c16] at H
         have c16b0 : (t394 == 0) = true := beq_iff_eq.mpr c16
         have c16b1 : (t394 != 0) = false := bne_eq_false_iff_eq.mpr c16
         clear c16
         obtain ⟨ji17, hji17⟩ : ∃ j_ : Int, (wrap64 ((wrap64 ((wrap64 (rd l0 1)) + (wrap64 (256 * (wrap64 (rd l0 2)))))) + 7)) = j_ := ⟨_, rfl⟩
         replace H : (if 0 ≤ (ji17) then (if (ji17) ≤ (l0.length : Int) then (if (strOfNums t391).toList = (strOfNums (l0.take ((ji17) : Int).toNat)).toList then (some (t381, t382, t383, t384, t387, t388, t389, ji17, 0)) else (some (0, 0, 0, ([] : List Int), 0, 0, 0, 0, 160))) else (none)) else (none)) = some (r1, r2, r3, r4, r5, r6, r7, r8, r9) := by first | (rw [hji17] at H; exact H) | (simp only [hji17] at H ⊢; exact H)
         (try rw [hji17] at c7b0)
         (try rw [hji17] at A14)
         (try rw [hji17] at A15)
         have hji17w : (IntKind.i64.wrap ((wrap64 ((wrap64 (rd l0 1)) + (wrap64 (256 * (wrap64 (rd l0 2)))))) + 7)) = ji17 := (i64_w _).trans hji17
         by_cases c18 : 0 ≤ (ji17)
         ·rw [if_pos c18] at H
          have c18b0 := eq_true c18
          have c18b1 : decide (0 ≤ (ji17)) = true := decide_eq_true c18
          clear c18
          by_cases c19 : (ji17) ≤ (l0.length : Int)
          ·rw [if_pos c19] at H
           have c19b0 := eq_true c19
           have c19b1 : decide ((ji17) ≤ (l0.length : Int)) = true := decide_eq_true c19
           clear c19
           by_cases c20 : (strOfNums t391).toList = (strOfNums (l0.take ((ji17) : Int).toNat)).toList
           ·rw [if_pos c20] at H
            have c20b0 : ((strOfNums t391).toList == (strOfNums (l0.take ((ji17) : Int).toNat)).toList) = true := beq_iff_eq.mpr c20
            have c20b1 : ((strOfNums t391).toList != (strOfNums (l0.take ((ji17) : Int).toNat)).toList) = false := bne_eq_false_iff_eq.mpr c20
            clear c20
            simp only [Option.some.injEq, Prod.mk.injEq] at H
            obtain ⟨rfl, rfl, rfl, rfl, rfl, rfl, rfl, rfl, rfl⟩ := H
            go_enter Try.func22, Try.ntmps22
            try go_wp2_with (first | ((with_reducible refine gate_dst (N := 2) rfl ?_); refine box_event ?hg (N := 2) ?hd (cs := #[.int .i64 0, .int .i64 0, .int .i64 0, .slice none 0 0, .int .i64 0, .int .i64 0, .int .i64 0]) (t := 38) ?hr ?_; (case hd => rfl); (case hg => rfl); (case hr => first | (go_simp; done) | (go_simp; rfl)); intro gb376 hg w21 hbox hb; have n0_ := Aside0.mk (below_step (by repeat (first | (with_reducible first | exact HB.out | apply below_alloc | apply pw_below_drewN | apply below_drew1) | exact HB.out)) hb); have n1_ := Aside0.mk (hbox); have n2_ := Aside0.mk ((by rw [hg]; exact (below_size (by repeat (first | (with_reducible first | exact HB.out | apply below_alloc | apply pw_below_drewN | apply below_drew1) | exact HB.out))) : w.heap.size ≤ gb376)); have n3_ := Aside0.mk ((by rw [hg]; exact (below_size (by repeat (first | (with_reducible first | exact HB.out | apply below_alloc | apply pw_below_drewN | apply below_drew1) | exact HB.out))) : w.heap.size ≤ gb376)); clear HB; have HB := n0_; have BK376 := n1_; have GW376 := n2_; have GE376 := n3_; clear n0_ n1_ n2_ n3_; clear hb hbox hg))
            have n0_ := Aside0.mk (blk_drew BK376.out)
            have n1_ := Aside0.mk (below_drew1 HB.out)
            clear BK376
            clear HB
            have BK376 := n0_
            have HB := n1_
            clear n0_ n1_
            have p377 : 0 ≤ (1 : Int) := (by omega)
            have q377 : 1 < (l0.length : Int) := of_decide_eq_true (by first | (with_reducible assumption) | assumption)
            obtain ⟨ad377, e377, hx377_0⟩ := Kd.at_int HR0.out 1 p377 q377
            have hw377_0 := hx377_0
            (try rw [show ((1 : Int)).toNat = 1 from rfl] at hw377_0)
            (try rw [show 1 * 1 = 1 from rfl] at hw377_0)
            (try simp only [Nat.reduceMul, Nat.reduceEqDiff, Go.Addr.add, ↓reduceIte] at hw377_0)
            cases e377
            (try simp only [show (1 : Int).toNat = 1 from rfl, Nat.reduceMul, Nat.reduceEqDiff, Go.Addr.add, ↓reduceIte] at hx377_0)
            have qi377 : (1 < l0.length) = True := eq_true (by omega)
            (try rw [show ((1 : Int)).toNat = 1 from rfl] at hx377_0)
            replace hx377_0 := (HB.out.cell (World.block_lt_of_cell? w _ hx377_0)).trans hx377_0
            replace p377 := eq_true p377
            replace q377 := eq_true q377
            have p378 : 0 ≤ (2 : Int) := (by omega)
            have q378 : 2 < (l0.length : Int) := of_decide_eq_true (by first | (with_reducible assumption) | assumption)
            obtain ⟨ad378, e378, hx378_0⟩ := Kd.at_int HR0.out 2 p378 q378
            have hw378_0 := hx378_0
            (try rw [show ((2 : Int)).toNat = 2 from rfl] at hw378_0)
            (try rw [show 2 * 1 = 2 from rfl] at hw378_0)
            (try simp only [Nat.reduceMul, Nat.reduceEqDiff, Go.Addr.add, ↓reduceIte] at hw378_0)
            obtain rfl : ad377 = ad378 := (by injection e378)
            (try simp only [show (2 : Int).toNat = 2 from rfl, Nat.reduceMul, Nat.reduceEqDiff, Go.Addr.add, ↓reduceIte] at hx378_0)
            have qi378 : (2 < l0.length) = True := eq_true (by omega)
            (try rw [show ((2 : Int)).toNat = 2 from rfl] at hx378_0)
            replace hx378_0 := (HB.out.cell (World.block_lt_of_cell? w _ hx378_0)).trans hx378_0
            replace p378 := eq_true p378
            replace q378 := eq_true q378
            refine start_ (n := 11) (S := fun w' => w'.cell? ⟨ad377.block, ad377.off + 1, none⟩ = some (.int .u8 (rd l0 1)) ∧ w'.cell? ⟨ad377.block, ad377.off + 2, none⟩ = some (.int .u8 (rd l0 2))) (ds := []) #[false, false, false, false, false, false, false, false, false, false, false] (by kernel_rfl) rfl rfl ⟨((HB.out.cell (World.block_lt_of_cell? w _ hw377_0)).trans hw377_0), ((HB.out.cell (World.block_lt_of_cell? w _ hw378_0)).trans hw378_0)⟩ (fun hHeld => ?_); refine with_tabW waggonerref16_Read_p.tab3 waggonerref16_Read_p.bits3 (fun HT_ HW_ => ?_)
            generalize w21.drew = w22 at BK376 HB hx377_0 hx378_0 hHeld ⊢
            refine pure_ (i := 0) (N := some 13) (v := ?_) (a' := ?_) #[true, false, false, false, false, false, false, false, false, false, false] rfl rfl (any_of HT_.out (by kernel_rfl)) (fun _ _ _ h => h) (Or.inl ⟨by rfl, ?_⟩) ?_ ?_
            rotate_left
            ·intro w'
             go_simp
             with_reducible rfl
            rotate_left
            ·simp only [Act.put, Kx.sb, Kx.sz, Kx.ss, i64_w, i32_w]
             rfl
            refine pure_ (i := 1) (N := some 14) (v := ?_) (a' := ?_) #[true, true, false, false, false, false, false, false, false, false, false] rfl rfl (any_of HT_.out (by kernel_rfl)) (fun _ _ _ h => h) (Or.inl ⟨by rfl, ?_⟩) ?_ ?_
            rotate_left
            ·intro w'
             go_simp
             with_reducible rfl
            rotate_left
            ·simp only [Act.put, Kx.sb, Kx.sz, Kx.ss, i64_w, i32_w]
             rfl
            refine pure_ (i := 4) (N := some 17) (v := ?_) (a' := ?_) #[true, true, false, false, true, false, false, false, false, false, false] rfl rfl (any_of HT_.out (by kernel_rfl)) (fun _ _ _ h => h) (Or.inl ⟨by rfl, ?_⟩) ?_ ?_
            rotate_left
            ·intro w'
             go_simp
             with_reducible rfl
            rotate_left
            ·simp only [Act.put, Kx.sb, Kx.sz, Kx.ss, i64_w, i32_w]
             rfl
            refine pure_ (i := 5) (N := some 18) (v := ?_) (a' := ?_) #[true, true, false, false, true, true, false, false, false, false, false] rfl rfl (any_of HT_.out (by kernel_rfl)) (fun _ _ _ h => h) (Or.inl ⟨by rfl, ?_⟩) ?_ ?_
            rotate_left
            ·intro w'
             go_simp
             with_reducible rfl
            rotate_left
            ·simp only [Act.put, Kx.sb, Kx.sz, Kx.ss, i64_w, i32_w]
             rfl
            refine take_ (i := 2) (N := some 15) (v := ?_) (a' := ?_) #[true, true, true, false, true, true, false, false, false, false, false] rfl rfl (take_ofW HT_.out HW_.out (by kernel_rfl)) (fun _ _ _ h => h) (Or.inl ⟨by rfl, ?_⟩) hHeld ?_ ?_
            rotate_left
            ·rintro w' ⟨s0, s1⟩
             go_simp
             with_reducible rfl
            rotate_left
            ·simp only [Act.put, Kx.sb, Kx.sz, Kx.ss, i64_w, i32_w]
             rfl
            refine pure_ (i := 3) (N := some 16) (v := ?_) (a' := ?_) #[true, true, true, true, true, true, false, false, false, false, false] rfl rfl (any_of HT_.out (by kernel_rfl)) (fun _ _ _ h => h) (Or.inl ⟨by rfl, ?_⟩) ?_ ?_
            rotate_left
            ·intro w'
             go_simp
             with_reducible rfl
            rotate_left
            ·simp only [Act.put, Kx.sb, Kx.sz, Kx.ss, i64_w, i32_w]
             rfl
            refine take_ (i := 6) (N := some 19) (v := ?_) (a' := ?_) #[true, true, true, true, true, true, true, false, false, false, false] rfl rfl (take_ofW HT_.out HW_.out (by kernel_rfl)) (fun _ _ _ h => h) (Or.inl ⟨by rfl, ?_⟩) hHeld ?_ ?_
            rotate_left
            ·rintro w' ⟨s0, s1⟩
             go_simp
             with_reducible rfl
            rotate_left
            ·simp only [Act.put, Kx.sb, Kx.sz, Kx.ss, i64_w, i32_w]
             rfl
            refine pure_ (i := 7) (N := some 20) (v := ?_) (a' := ?_) #[true, true, true, true, true, true, true, true, false, false, false] rfl rfl (any_of HT_.out (by kernel_rfl)) (fun _ _ _ h => h) (Or.inl ⟨by rfl, ?_⟩) ?_ ?_
            rotate_left
            ·intro w'
             go_simp
             with_reducible rfl
            rotate_left
            ·simp only [Act.put, Kx.sb, Kx.sz, Kx.ss, i64_w, i32_w]
             rfl
            refine pure_ (i := 8) (N := some 21) (v := ?_) (a' := ?_) #[true, true, true, true, true, true, true, true, true, false, false] rfl rfl (any_of HT_.out (by kernel_rfl)) (fun _ _ _ h => h) (Or.inl ⟨by rfl, ?_⟩) ?_ ?_
            rotate_left
            ·intro w'
             go_simp
             with_reducible rfl
            rotate_left
            ·simp only [Act.put, Kx.sb, Kx.sz, Kx.ss, i64_w, i32_w]
             rfl
            refine pure_ (i := 9) (N := some 22) (v := ?_) (a' := ?_) #[true, true, true, true, true, true, true, true, true, true, false] rfl rfl (any_of HT_.out (by kernel_rfl)) (fun _ _ _ h => h) (Or.inl ⟨by rfl, ?_⟩) ?_ ?_
            rotate_left
            ·intro w'
             go_simp
             with_reducible rfl
            rotate_left
            ·simp only [Act.put, Kx.sb, Kx.sz, Kx.ss, i64_w, i32_w]
             rfl
            refine pure_ (i := 10) (N := some 5) (v := ?_) (a' := ?_) #[true, true, true, true, true, true, true, true, true, true, true] rfl rfl (any_of HT_.out (by kernel_rfl)) (fun _ _ _ h => h) (Or.inl ⟨by rfl, ?_⟩) ?_ ?_
            rotate_left
            ·intro w'
             go_simp
             with_reducible rfl
            rotate_left
            ·simp only [Act.put, Kx.sb, Kx.sz, Kx.ss, i64_w, i32_w]
             rfl
            refine done_ (done_of HT_.out (by kernel_rfl)) ?_
            try go_wp2
            have n0_ := Aside0.mk (blk_drew BK376.out)
            have n1_ := Aside0.mk (below_drew1 HB.out)
            clear BK376
            clear HB
            have BK376 := n0_
            have HB := n1_
            clear n0_ n1_
            have p379 : 0 ≤ (0 : Int) := (by omega)
            have q379 : 0 < (l0.length : Int) := of_decide_eq_true (by first | (with_reducible assumption) | assumption)
            obtain ⟨ad379, e379, hx379_0⟩ := Kd.at_int HR0.out 0 p379 q379
            have hw379_0 := hx379_0
            (try rw [show ((0 : Int)).toNat = 0 from rfl] at hw379_0)
            (try rw [show 0 * 1 = 0 from rfl] at hw379_0)
            (try rw [Addr.add_zero'] at hw379_0)
            obtain rfl : ad377 = ad379 := (by injection e379)
            have qi379 : (0 < l0.length) = True := eq_true (by omega)
            (try rw [show ((0 : Int)).toNat = 0 from rfl] at hx379_0)
            (try rw [Addr.add_zero'] at hx379_0)
            replace hx379_0 := (HB.out.cell (World.block_lt_of_cell? w _ hx379_0)).trans hx379_0
            replace p379 := eq_true p379
            replace q379 := eq_true q379
            obtain ⟨i024, hi024, _, hsz24, _⟩ := info_parts info5
            obtain ⟨A24, hcut24, hA24, hC24⟩ := print_mid_of (P := Try.prog) (Value.int .u8) 0 27 5 .i64 .i64 Try.underlying27 hi024 hsz24 (some ad377) c0 l0 3 (wrap64 (3 + (wrap64 ((wrap64 (rd l0 1)) + (wrap64 (256 * (wrap64 (rd l0 2)))))))) (by omega) (by first | omega | exact of_decide_eq_true (by first | (with_reducible assumption) | assumption)) (of_decide_eq_true (by first | (with_reducible assumption) | assumption)) HC0.out
            have HR380 := Aside0.mk (Kd.C_of_reads (h1 := fun _ => rfl) (hA24 _ (Kd.reads_of_C HR0.out)))
            have HC380 := Aside0.mk hC24
            clear hA24 hC24 hi024 hsz24
            refine start_ (n := 11) (S := fun w' => w'.cell? ad377 = some (.int .u8 (rd l0 0))) (ds := [10]) #[false, false, false, false, false, false, false, false, false, false, false] (by kernel_rfl) rfl rfl (((HB.out.cell (World.block_lt_of_cell? w _ hw379_0)).trans hw379_0)) (fun hHeld => ?_); refine with_tabW waggonerref16_Read_p.tab6 waggonerref16_Read_p.bits6 (fun HT_ HW_ => ?_)
            generalize w22.drew = w23 at BK376 HB HR380 hx379_0 hHeld ⊢
            refine pure_ (i := 0) (N := some 29) (v := ?_) (a' := ?_) #[true, false, false, false, false, false, false, false, false, false, false] rfl rfl (any_of HT_.out (by kernel_rfl)) (fun _ _ _ h => h) (Or.inl ⟨by rfl, ?_⟩) ?_ ?_
            rotate_left
            ·intro w'
             go_simp
             with_reducible rfl
            rotate_left
            ·simp only [Act.put, Kx.sb, Kx.sz, Kx.ss, i64_w, i32_w]
             rfl
            refine pure_ (i := 1) (N := some 30) (v := ?_) (a' := ?_) #[true, true, false, false, false, false, false, false, false, false, false] rfl rfl (any_of HT_.out (by kernel_rfl)) (fun _ _ _ h => h) (Or.inl ⟨by rfl, ?_⟩) ?_ ?_
            rotate_left
            ·intro w'
             go_simp
             with_reducible rfl
            rotate_left
            ·simp only [Act.put, Kx.sb, Kx.sz, Kx.ss, i64_w, i32_w]
             rfl
            refine pure_ (i := 4) (N := some 33) (v := ?_) (a' := ?_) #[true, true, false, false, true, false, false, false, false, false, false] rfl rfl (any_of HT_.out (by kernel_rfl)) (fun _ _ _ h => h) (Or.inl ⟨by rfl, ?_⟩) ?_ ?_
            rotate_left
            ·intro w'
             go_simp
             with_reducible rfl
            rotate_left
            ·simp only [Act.put, Kx.sb, Kx.sz, Kx.ss, i64_w, i32_w]
             rfl
            refine pure_ (i := 5) (N := some 34) (v := ?_) (a' := ?_) #[true, true, false, false, true, true, false, false, false, false, false] rfl rfl (any_of HT_.out (by kernel_rfl)) (fun _ _ _ h => h) (Or.inl ⟨by rfl, ?_⟩) ?_ ?_
            rotate_left
            ·intro w'
             go_simp
             with_reducible rfl
            rotate_left
            ·simp only [Act.put, Kx.sb, Kx.sz, Kx.ss, i64_w, i32_w]
             rfl
            refine pure_ (i := 6) (N := some 35) (v := ?_) (a' := ?_) #[true, true, false, false, true, true, true, false, false, false, false] rfl rfl (any_of HT_.out (by kernel_rfl)) (fun _ _ _ h => h) (Or.inl ⟨by rfl, ?_⟩) ?_ ?_
            rotate_left
            ·intro w'
             go_simp
             with_reducible rfl
            rotate_left
            ·simp only [Act.put, Kx.sb, Kx.sz, Kx.ss, i64_w, i32_w]
             rfl
            refine pure_ (i := 7) (N := some 36) (v := ?_) (a' := ?_) #[true, true, false, false, true, true, true, true, false, false, false] rfl rfl (any_of HT_.out (by kernel_rfl)) (fun _ _ _ h => h) (Or.inl ⟨by rfl, ?_⟩) ?_ ?_
            rotate_left
            ·intro w'
             go_simp
             with_reducible rfl
            rotate_left
            ·simp only [Act.put, Kx.sb, Kx.sz, Kx.ss, i64_w, i32_w]
             rfl
            refine take_ (i := 2) (N := some 31) (v := ?_) (a' := ?_) #[true, true, true, false, true, true, true, true, false, false, false] rfl rfl (take_ofW HT_.out HW_.out (by kernel_rfl)) (fun _ _ _ h => h) (Or.inl ⟨by rfl, ?_⟩) hHeld ?_ ?_
            rotate_left
            ·intro w' s0
             go_simp
             with_reducible rfl
            rotate_left
            ·simp only [Act.put, Kx.sb, Kx.sz, Kx.ss, i64_w, i32_w]
             rfl
            refine pure_ (i := 3) (N := some 32) (v := ?_) (a' := ?_) #[true, true, true, true, true, true, true, true, false, false, false] rfl rfl (any_of HT_.out (by kernel_rfl)) (fun _ _ _ h => h) (Or.inl ⟨by rfl, ?_⟩) ?_ ?_
            rotate_left
            ·intro w'
             go_simp
             with_reducible rfl
            rotate_left
            ·simp only [Act.put, Kx.sb, Kx.sz, Kx.ss, i64_w, i32_w]
             rfl
            refine join_ (σ := Value × Nat) 1 #[true, true, true, true, true, true, true, true, true, true, false] (fun s_ => [(37, .agg #[.int .i64 t381, .int .i64 t382, .int .i64 t383, s_.1, .int .i64 t387, .int .i64 t388, .int .i64 t389]), (6, .pointer (some ⟨s_.2, 0, none⟩))]) (fun s_ w' => (w'.cell? ad377 = some (.int .u8 (rd l0 0))) ∧ (Kd.R (Kd.int .u8) 5 w' w.heap.size (fun _ => True) s_.1 t384) ∧ (w'.heap[gb376]? = some (.cells #[.int .i64 0, .int .i64 0, .int .i64 0, .slice none 0 0, .int .i64 0, .int .i64 0, .int .i64 0] 38 (0, 0))) ∧ (w'.heap[s_.2]? = some (.cells #[.int .i64 0, .int .i64 0, .int .i64 0, .slice none 0 0, .int .i64 0, .int .i64 0, .int .i64 0] 38 (0, 0))) ∧ (w.heap.size ≤ s_.2) ∧ (w.heap.size ≤ s_.2) ∧ (gb376 ≠ s_.2) ∧ (s_.2 ≠ gb376) ∧ (Below w.heap.size w w')) ?_ ?_
            rotate_left
            ·intro hCont
             refine two_ (i := 8) (j := 9) (Ni := some 37) (Nj := some 6) #[true, true, true, true, true, true, true, true, true, false, false] #[true, true, true, true, true, true, true, true, false, true, false] rfl rfl rfl rfl (two_of HT_.out (by kernel_rfl)) (by decide) (by decide) (fun K hK => ?_) (fun K hK => ?_)
             ·skip
              refine goes_ Try.func48 (by kernel_rfl) rfl #[.int .i64 (wrap64 (rd l0 0)), .slice A24 ((l0.take ((wrap64 (3 + (wrap64 ((wrap64 (rd l0 1)) + (wrap64 (256 * (wrap64 (rd l0 2)))))))) : Int).toNat).drop 3).length (c0 - 3)] (by rfl) rfl rfl (by (try simp only [List.map_toArray, List.map_cons, List.map_nil]); first | done | (rw [show ((l0.take ((wrap64 (3 + (wrap64 ((wrap64 (rd l0 1)) + (wrap64 (256 * (wrap64 (rd l0 2)))))))) : Int).toNat).drop 3).length = ((wrap64 (3 + (wrap64 ((wrap64 (rd l0 1)) + (wrap64 (256 * (wrap64 (rd l0 2)))))))).toNat - 3) from (by rw [List.length_drop, List.length_take]; have h_ : ((wrap64 (3 + (wrap64 ((wrap64 (rd l0 1)) + (wrap64 (256 * (wrap64 (rd l0 2)))))))) : Int) ≤ (l0.length : Int) := of_decide_eq_true (by first | (with_reducible assumption) | assumption); omega)] <;> rfl) | rfl | (simp only [List.length_drop, List.length_take]; rfl)) ?_
              with_reducible refine (waggonerref16_may.calls (wrap64 (rd l0 0)) _ _ ((l0.take ((wrap64 (3 + (wrap64 ((wrap64 (rd l0 1)) + (wrap64 (256 * (wrap64 (rd l0 2)))))))) : Int).toNat).drop 3) t381 t382 t383 t384 t387 t388 t389 _ ?side1 ?side2 A14.out).mono ?_
              (case side1 => repeat (first | exact (Kd.C_below HR380.out HB.out) | (with_reducible refine Kd.C_alloc ?_ _) | (with_reducible refine Kd.C_drewN ?_ _) | (with_reducible refine Kd.C_drew ?_)))
              (case side2 => exact HC380.out)
              rintro e w25 ⟨v385, rfl, ho0, hb⟩
              refine ⟨_, rfl, ?_⟩
              have n0_ := Aside0.mk (Kd.R_lower ho0 (below_size (by repeat (first | (with_reducible first | exact HB.out | apply below_alloc | apply pw_below_drewN | apply below_drew1 | refine below_set ?_ GE376.out) | exact HB.out))))
              have n1_ := Aside0.mk (blk_below (g := gb376) (o := .cells #[.int .i64 0, .int .i64 0, .int .i64 0, .slice none 0 0, .int .i64 0, .int .i64 0, .int .i64 0] 38 (0, 0)) (by (with_reducible repeat (first | refine blk_drewN ?_ _ | refine blk_drew ?_ | refine blk_alloc ?_ _)); exact BK376.out) hb)
              have n2_ := Aside0.mk (below_step (by repeat (first | (with_reducible first | exact HB.out | apply below_alloc | apply pw_below_drewN | apply below_drew1 | refine below_set ?_ GE376.out) | exact HB.out)) hb)
              clear BK376
              clear HB
              have HO386 := n0_
              have BK376 := n1_
              have HB := n2_
              clear n0_ n1_ n2_
              (try clear hb)
              (try clear hb2)
              (try clear hk)
              (try clear hi)
              (try clear ho0)
              refine hK.out _ _ (((HB.out.cell (World.block_lt_of_cell? w _ hw379_0)).trans hw379_0)) (fun hHeld => ?_)
              clear hK K
              refine norm_ (a' := ?_) ?_ ?_
              rotate_left
              ·show Act.put _ (some 37) _ = _
               simp only [Act.put, Kx.sb, Kx.sz, Kx.ss, i64_w, i32_w]
               rfl
              refine one_ (i := 9) (N := some 6) #[true, true, true, true, true, true, true, true, true, true, false] rfl rfl (one_of HT_.out (by kernel_rfl)) (by decide) (fun K hK => ?_)
              refine box_step ?hg (N := 6) ?hd (cs := #[.int .i64 0, .int .i64 0, .int .i64 0, .slice none 0 0, .int .i64 0, .int .i64 0, .int .i64 0]) (t := 38) ?hr ?_; (case hd => rfl); (case hg => rfl); (case hr => first | (go_simp; done) | (go_simp; rfl))
              intro gb390 hg w26 hbox hb
              have n0_ := Aside0.mk (Kd.R_below (by (with_reducible repeat (first | apply Kd.R_alloc | apply Kd.R_drewN | apply Kd.R_drew)); exact HO386.out) hb)
              have n1_ := Aside0.mk (blk_below (g := gb376) (o := .cells #[.int .i64 0, .int .i64 0, .int .i64 0, .slice none 0 0, .int .i64 0, .int .i64 0, .int .i64 0] 38 (0, 0)) (by (with_reducible repeat (first | refine blk_drewN ?_ _ | refine blk_drew ?_ | refine blk_alloc ?_ _)); exact BK376.out) hb)
              have n2_ := Aside0.mk (below_step (by repeat (first | (with_reducible first | exact HB.out | apply below_alloc | apply pw_below_drewN | apply below_drew1 | refine below_set ?_ GE376.out) | exact HB.out)) hb)
              have n3_ := Aside0.mk (hbox)
              have n4_ := Aside0.mk ((by rw [hg]; exact (below_size (by repeat (first | (with_reducible first | exact HB.out | apply below_alloc | apply pw_below_drewN | apply below_drew1 | refine below_set ?_ GE376.out) | exact HB.out))) : w.heap.size ≤ gb390))
              have n5_ := Aside0.mk ((by rw [hg]; exact (below_size (by repeat (first | (with_reducible first | exact HB.out | apply below_alloc | apply pw_below_drewN | apply below_drew1 | refine below_set ?_ GE376.out) | exact HB.out))) : w.heap.size ≤ gb390))
              have n6_ := Aside0.mk ((by rw [hg]; exact Nat.ne_of_lt (blk_lt (g := gb376) (o := .cells #[.int .i64 0, .int .i64 0, .int .i64 0, .slice none 0 0, .int .i64 0, .int .i64 0, .int .i64 0] 38 (0, 0)) (by (with_reducible repeat (first | refine blk_drewN ?_ _ | refine blk_drew ?_ | refine blk_alloc ?_ _)); exact BK376.out)) : gb376 ≠ gb390))
              have n7_ := Aside0.mk ((by rw [hg]; exact Nat.ne_of_gt (blk_lt (g := gb376) (o := .cells #[.int .i64 0, .int .i64 0, .int .i64 0, .slice none 0 0, .int .i64 0, .int .i64 0, .int .i64 0] 38 (0, 0)) (by (with_reducible repeat (first | refine blk_drewN ?_ _ | refine blk_drew ?_ | refine blk_alloc ?_ _)); exact BK376.out)) : gb390 ≠ gb376))
              clear HO386
              clear BK376
              clear HB
              have HO386 := n0_
              have BK376 := n1_
              have HB := n2_
              have BK390 := n3_
              have GW390 := n4_
              have GE390 := n5_
              have NB376_390 := n6_
              have NB390_376 := n7_
              clear n0_ n1_ n2_ n3_ n4_ n5_ n6_ n7_
              clear hb hbox hg
              refine hK.out _ _ (((HB.out.cell (World.block_lt_of_cell? w _ hw379_0)).trans hw379_0)) (fun hHeld => ?_)
              clear hK K
              refine norm_ (a' := ?_) ?_ ?_
              rotate_left
              ·show Act.put _ (some 6) _ = _
               simp only [Act.put, Kx.sb, Kx.sz, Kx.ss, i64_w, i32_w]
               rfl
              exact norm_ (by simp only [putAll, Act.put, Kx.sb, Kx.sz, Kx.ss]) (hCont (v385, gb390) _ ⟨hHeld, (by (with_reducible repeat (first | apply Kd.R_alloc | apply Kd.R_drewN | apply Kd.R_drew)); exact HO386.out), (by (with_reducible repeat (first | refine blk_drewN ?_ _ | refine blk_drew ?_ | refine blk_alloc ?_ _)); exact BK376.out), (by (with_reducible repeat (first | refine blk_drewN ?_ _ | refine blk_drew ?_ | refine blk_alloc ?_ _)); exact BK390.out), GW390.out, GE390.out, NB376_390.out, NB390_376.out, (by repeat (first | (with_reducible first | exact HB.out | apply below_alloc | apply pw_below_drewN | apply below_drew1 | refine below_set ?_ GE376.out | refine below_set ?_ GE390.out) | exact HB.out))⟩)
             ·skip
              refine box_step ?hg (N := 6) ?hd (cs := #[.int .i64 0, .int .i64 0, .int .i64 0, .slice none 0 0, .int .i64 0, .int .i64 0, .int .i64 0]) (t := 38) ?hr ?_; (case hd => rfl); (case hg => rfl); (case hr => first | (go_simp; done) | (go_simp; rfl))
              intro gb390 hg w25 hbox hb
              have n0_ := Aside0.mk (blk_below (g := gb376) (o := .cells #[.int .i64 0, .int .i64 0, .int .i64 0, .slice none 0 0, .int .i64 0, .int .i64 0, .int .i64 0] 38 (0, 0)) (by (with_reducible repeat (first | refine blk_drewN ?_ _ | refine blk_drew ?_ | refine blk_alloc ?_ _)); exact BK376.out) hb)
              have n1_ := Aside0.mk (below_step (by repeat (first | (with_reducible first | exact HB.out | apply below_alloc | apply pw_below_drewN | apply below_drew1 | refine below_set ?_ GE376.out) | exact HB.out)) hb)
              have n2_ := Aside0.mk (hbox)
              have n3_ := Aside0.mk ((by rw [hg]; exact (below_size (by repeat (first | (with_reducible first | exact HB.out | apply below_alloc | apply pw_below_drewN | apply below_drew1 | refine below_set ?_ GE376.out) | exact HB.out))) : w.heap.size ≤ gb390))
              have n4_ := Aside0.mk ((by rw [hg]; exact (below_size (by repeat (first | (with_reducible first | exact HB.out | apply below_alloc | apply pw_below_drewN | apply below_drew1 | refine below_set ?_ GE376.out) | exact HB.out))) : w.heap.size ≤ gb390))
              have n5_ := Aside0.mk ((by rw [hg]; exact Nat.ne_of_lt (blk_lt (g := gb376) (o := .cells #[.int .i64 0, .int .i64 0, .int .i64 0, .slice none 0 0, .int .i64 0, .int .i64 0, .int .i64 0] 38 (0, 0)) (by (with_reducible repeat (first | refine blk_drewN ?_ _ | refine blk_drew ?_ | refine blk_alloc ?_ _)); exact BK376.out)) : gb376 ≠ gb390))
              have n6_ := Aside0.mk ((by rw [hg]; exact Nat.ne_of_gt (blk_lt (g := gb376) (o := .cells #[.int .i64 0, .int .i64 0, .int .i64 0, .slice none 0 0, .int .i64 0, .int .i64 0, .int .i64 0] 38 (0, 0)) (by (with_reducible repeat (first | refine blk_drewN ?_ _ | refine blk_drew ?_ | refine blk_alloc ?_ _)); exact BK376.out)) : gb390 ≠ gb376))
              clear BK376
              clear HB
              have BK376 := n0_
              have HB := n1_
              have BK390 := n2_
              have GW390 := n3_
              have GE390 := n4_
              have NB376_390 := n5_
              have NB390_376 := n6_
              clear n0_ n1_ n2_ n3_ n4_ n5_ n6_
              clear hb hbox hg
              refine hK.out _ _ (((HB.out.cell (World.block_lt_of_cell? w _ hw379_0)).trans hw379_0)) (fun hHeld => ?_)
              clear hK K
              refine norm_ (a' := ?_) ?_ ?_
              rotate_left
              ·show Act.put _ (some 6) _ = _
               simp only [Act.put, Kx.sb, Kx.sz, Kx.ss, i64_w, i32_w]
               rfl
              refine one_ (i := 8) (N := some 37) #[true, true, true, true, true, true, true, true, true, true, false] rfl rfl (one_of HT_.out (by kernel_rfl)) (by decide) (fun K hK => ?_)
              refine goes_ Try.func48 (by kernel_rfl) rfl #[.int .i64 (wrap64 (rd l0 0)), .slice A24 ((l0.take ((wrap64 (3 + (wrap64 ((wrap64 (rd l0 1)) + (wrap64 (256 * (wrap64 (rd l0 2)))))))) : Int).toNat).drop 3).length (c0 - 3)] (by rfl) rfl rfl (by (try simp only [List.map_toArray, List.map_cons, List.map_nil]); first | done | (rw [show ((l0.take ((wrap64 (3 + (wrap64 ((wrap64 (rd l0 1)) + (wrap64 (256 * (wrap64 (rd l0 2)))))))) : Int).toNat).drop 3).length = ((wrap64 (3 + (wrap64 ((wrap64 (rd l0 1)) + (wrap64 (256 * (wrap64 (rd l0 2)))))))).toNat - 3) from (by rw [List.length_drop, List.length_take]; have h_ : ((wrap64 (3 + (wrap64 ((wrap64 (rd l0 1)) + (wrap64 (256 * (wrap64 (rd l0 2)))))))) : Int) ≤ (l0.length : Int) := of_decide_eq_true (by first | (with_reducible assumption) | assumption); omega)] <;> rfl) | rfl | (simp only [List.length_drop, List.length_take]; rfl)) ?_
              with_reducible refine (waggonerref16_may.calls (wrap64 (rd l0 0)) _ _ ((l0.take ((wrap64 (3 + (wrap64 ((wrap64 (rd l0 1)) + (wrap64 (256 * (wrap64 (rd l0 2)))))))) : Int).toNat).drop 3) t381 t382 t383 t384 t387 t388 t389 _ ?side1 ?side2 A14.out).mono ?_
              (case side1 => repeat (first | exact (Kd.C_below HR380.out HB.out) | (with_reducible refine Kd.C_alloc ?_ _) | (with_reducible refine Kd.C_drewN ?_ _) | (with_reducible refine Kd.C_drew ?_)))
              (case side2 => exact HC380.out)
              rintro e w26 ⟨v385, rfl, ho0, hb⟩
              refine ⟨_, rfl, ?_⟩
              have n0_ := Aside0.mk (Kd.R_lower ho0 (below_size (by repeat (first | (with_reducible first | exact HB.out | apply below_alloc | apply pw_below_drewN | apply below_drew1 | refine below_set ?_ GE376.out | refine below_set ?_ GE390.out) | exact HB.out))))
              have n1_ := Aside0.mk (blk_below (g := gb376) (o := .cells #[.int .i64 0, .int .i64 0, .int .i64 0, .slice none 0 0, .int .i64 0, .int .i64 0, .int .i64 0] 38 (0, 0)) (by (with_reducible repeat (first | refine blk_drewN ?_ _ | refine blk_drew ?_ | refine blk_alloc ?_ _)); exact BK376.out) hb)
              have n2_ := Aside0.mk (blk_below (g := gb390) (o := .cells #[.int .i64 0, .int .i64 0, .int .i64 0, .slice none 0 0, .int .i64 0, .int .i64 0, .int .i64 0] 38 (0, 0)) (by (with_reducible repeat (first | refine blk_drewN ?_ _ | refine blk_drew ?_ | refine blk_alloc ?_ _)); exact BK390.out) hb)
              have n3_ := Aside0.mk (below_step (by repeat (first | (with_reducible first | exact HB.out | apply below_alloc | apply pw_below_drewN | apply below_drew1 | refine below_set ?_ GE376.out | refine below_set ?_ GE390.out) | exact HB.out)) hb)
              clear BK376
              clear BK390
              clear HB
              have HO386 := n0_
              have BK376 := n1_
              have BK390 := n2_
              have HB := n3_
              clear n0_ n1_ n2_ n3_
              (try clear hb)
              (try clear hb2)
              (try clear hk)
              (try clear hi)
              (try clear ho0)
              refine hK.out _ _ (((HB.out.cell (World.block_lt_of_cell? w _ hw379_0)).trans hw379_0)) (fun hHeld => ?_)
              clear hK K
              refine norm_ (a' := ?_) ?_ ?_
              rotate_left
              ·show Act.put _ (some 37) _ = _
               simp only [Act.put, Kx.sb, Kx.sz, Kx.ss, i64_w, i32_w]
               rfl
              exact norm_ (by simp only [putAll, Act.put, Kx.sb, Kx.sz, Kx.ss]) (hCont (v385, gb390) _ ⟨hHeld, (by (with_reducible repeat (first | apply Kd.R_alloc | apply Kd.R_drewN | apply Kd.R_drew)); exact HO386.out), (by (with_reducible repeat (first | refine blk_drewN ?_ _ | refine blk_drew ?_ | refine blk_alloc ?_ _)); exact BK376.out), (by (with_reducible repeat (first | refine blk_drewN ?_ _ | refine blk_drew ?_ | refine blk_alloc ?_ _)); exact BK390.out), GW390.out, GE390.out, NB376_390.out, NB390_376.out, (by repeat (first | (with_reducible first | exact HB.out | apply below_alloc | apply pw_below_drewN | apply below_drew1 | refine below_set ?_ GE376.out | refine below_set ?_ GE390.out) | exact HB.out))⟩)
            rintro ⟨v385, gb390⟩ w27 ⟨hS_, h0_, h1_, h2_, h3_, h4_, h5_, h6_, h7_⟩
            have n0_ : Aside0 (Kd.R (Kd.int .u8) 5 w27 w.heap.size (fun _ => True) v385 t384) := ⟨h0_⟩
            have n1_ : Aside0 (w27.heap[gb376]? = some (.cells #[.int .i64 0, .int .i64 0, .int .i64 0, .slice none 0 0, .int .i64 0, .int .i64 0, .int .i64 0] 38 (0, 0))) := ⟨h1_⟩
            have n2_ : Aside0 (w27.heap[gb390]? = some (.cells #[.int .i64 0, .int .i64 0, .int .i64 0, .slice none 0 0, .int .i64 0, .int .i64 0, .int .i64 0] 38 (0, 0))) := ⟨h2_⟩
            have n3_ : Aside0 (w.heap.size ≤ gb390) := ⟨h3_⟩
            have n4_ : Aside0 (w.heap.size ≤ gb390) := ⟨h4_⟩
            have n5_ : Aside0 (gb376 ≠ gb390) := ⟨h5_⟩
            have n6_ : Aside0 (gb390 ≠ gb376) := ⟨h6_⟩
            have n7_ : Aside0 (Below w.heap.size w w27) := ⟨h7_⟩
            clear BK376
            clear HB
            clear h0_ h1_ h2_ h3_ h4_ h5_ h6_ h7_
            have HO386 := n0_
            have BK376 := n1_
            have BK390 := n2_
            have GW390 := n3_
            have GE390 := n4_
            have NB376_390 := n5_
            have NB390_376 := n6_
            have HB := n7_
            clear n0_ n1_ n2_ n3_ n4_ n5_ n6_ n7_
            have hHeld : w27.cell? ad377 = some (.int .u8 (rd l0 0)) := hS_
            obtain ⟨Ao31, co31, eo31⟩ := Kd.R_slice HO386.out
            (first | subst eo31 | (injection eo31 with f1_ f2_ f3_; have f4_ := f1_.symm; have f5_ := f3_.symm; clear f1_ f2_ f3_; subst f4_; subst f5_))
            refine norm_ (a' := ?_) ?_ ?_
            rotate_left
            ·simp only [putAll, Act.put, Kx.sb, Kx.sz, Kx.ss]
             rfl
            refine last_ (i := 10) (N := none) #[true, true, true, true, true, true, true, true, true, true, true] rfl rfl (one_of HT_.out (by kernel_rfl)) (by decide) (fun K hK => ?_)
            have hs28 : w27.cell? ⟨gb390, 0, none⟩ = some (.int .i64 0) := (blk_cell BK390.out 0).trans rfl
            have hfs28 := blk_frozen BK390.out 0
            have hns28_0 := NB376_390.out
            have hms28_0 := NB390_376.out
            have hs29 : w27.cell? ⟨gb390, 1, none⟩ = some (.int .i64 0) := (blk_cell BK390.out 1).trans rfl
            have hfs29 := blk_frozen BK390.out 1
            have hns29_0 := NB376_390.out
            have hms29_0 := NB390_376.out
            have hs30 : w27.cell? ⟨gb390, 2, none⟩ = some (.int .i64 0) := (blk_cell BK390.out 2).trans rfl
            have hfs30 := blk_frozen BK390.out 2
            have hns30_0 := NB376_390.out
            have hms30_0 := NB390_376.out
            have hs32 : w27.cell? ⟨gb390, 3, none⟩ = some (.slice none 0 0) := (blk_cell BK390.out 3).trans rfl
            have hfs32 := blk_frozen BK390.out 3
            have hns32_0 := NB376_390.out
            have hms32_0 := NB390_376.out
            have hs33 : w27.cell? ⟨gb390, 4, none⟩ = some (.int .i64 0) := (blk_cell BK390.out 4).trans rfl
            have hfs33 := blk_frozen BK390.out 4
            have hns33_0 := NB376_390.out
            have hms33_0 := NB390_376.out
            have hs34 : w27.cell? ⟨gb390, 5, none⟩ = some (.int .i64 0) := (blk_cell BK390.out 5).trans rfl
            have hfs34 := blk_frozen BK390.out 5
            have hns34_0 := NB376_390.out
            have hms34_0 := NB390_376.out
            have hs35 : w27.cell? ⟨gb390, 6, none⟩ = some (.int .i64 0) := (blk_cell BK390.out 6).trans rfl
            have hfs35 := blk_frozen BK390.out 6
            have hns35_0 := NB376_390.out
            have hms35_0 := NB390_376.out
            refine skip_ (w1 := ?_) (by rfl) rfl ?_ ?_
            rotate_left
            ·go_simp
             rfl
            refine hK.out _ _ ?_
            clear hK K
            refine done_ (done_of HT_.out (by kernel_rfl)) ?_
            have hnb36 := NB390_376.out
            have hnc36 := NB376_390.out
            have hcz37_0 : w27.cell? ⟨gb390, 0, none⟩ = some (.int .i64 0) := (blk_cell BK390.out 0).trans rfl
            have hcz37_1 : w27.cell? ⟨gb390, 1, none⟩ = some (.int .i64 0) := (blk_cell BK390.out 1).trans rfl
            have hcz37_2 : w27.cell? ⟨gb390, 2, none⟩ = some (.int .i64 0) := (blk_cell BK390.out 2).trans rfl
            have hcz37_3 : w27.cell? ⟨gb390, 3, none⟩ = some (.slice none 0 0) := (blk_cell BK390.out 3).trans rfl
            have hcz37_4 : w27.cell? ⟨gb390, 4, none⟩ = some (.int .i64 0) := (blk_cell BK390.out 4).trans rfl
            have hcz37_5 : w27.cell? ⟨gb390, 5, none⟩ = some (.int .i64 0) := (blk_cell BK390.out 5).trans rfl
            have hcz37_6 : w27.cell? ⟨gb390, 6, none⟩ = some (.int .i64 0) := (blk_cell BK390.out 6).trans rfl
            have hfz37_0 := blk_frozen BK390.out 0
            have hfz37_1 := blk_frozen BK390.out 1
            have hfz37_2 := blk_frozen BK390.out 2
            have hfz37_3 := blk_frozen BK390.out 3
            have hfz37_4 := blk_frozen BK390.out 4
            have hfz37_5 := blk_frozen BK390.out 5
            have hfz37_6 := blk_frozen BK390.out 6
            try go_wp2_with (first | ((with_reducible refine gate_callee (f := 20) rfl ?_); refine goesL_ (some 40) rfl rfl Try.func20 (by kernel_rfl) rfl #[.agg #[.int .i64 t381, .int .i64 t382, .int .i64 t383, .slice Ao31 t384.length co31, .int .i64 t387, .int .i64 t388, .int .i64 t389]] rfl (by (try simp only [List.map_toArray, List.map_cons, List.map_nil]); first | done | rfl | (simp only [List.length_drop, List.length_take]; rfl)) ?_; (with_reducible refine (waggonerref16_Write.calls t381 t382 t383 _ _ t384 t387 t388 t389 t391 t394 _ ?side1 ?side2 A15.out).mono ?_); (case side1 => refine (Kd.R_reads' (e := 5) (base := w.heap.size) (ok := fun k_ => True) (n := t384.length) (c := co31) ?_).2.2; exact (by (with_reducible repeat (first | apply Kd.R_alloc | apply Kd.R_drewN | apply Kd.R_drew)); exact (Kd.R_mono (Kd.R_far (p := ⟨gb390, 6, none⟩) (Kd.R_far (p := ⟨gb390, 5, none⟩) (Kd.R_far (p := ⟨gb390, 4, none⟩) (Kd.R_far (p := ⟨gb390, 3, none⟩) (Kd.R_far (p := ⟨gb390, 2, none⟩) (Kd.R_far (p := ⟨gb390, 1, none⟩) (Kd.R_far (p := ⟨gb390, 0, none⟩) (Kd.R_types HO386.out BK390.out (by decide)) (fun _ hk => hk.2) (.int .i64 t381)) (fun _ hk => hk.2) (.int .i64 t382)) (fun _ hk => hk.2) (.int .i64 t383)) (fun _ hk => hk.2) (.slice Ao31 t384.length co31)) (fun _ hk => hk.2) (.int .i64 t387)) (fun _ hk => hk.2) (.int .i64 t388)) (fun _ hk => hk.2) (.int .i64 t389)) (fun _ h_ => h_.1)))); (case side2 => exact (Kd.R_reads' HO386.out).2.1); rintro e w38 ⟨v392, rfl, ho0, hb⟩; refine ⟨_, rfl, ?_⟩; have n0_ := Aside0.mk (Kd.R_elder' (by (with_reducible repeat (first | apply Kd.R_alloc | apply Kd.R_drewN | apply Kd.R_drew)); exact (Kd.R_mono (Kd.R_far (p := ⟨gb390, 6, none⟩) (Kd.R_far (p := ⟨gb390, 5, none⟩) (Kd.R_far (p := ⟨gb390, 4, none⟩) (Kd.R_far (p := ⟨gb390, 3, none⟩) (Kd.R_far (p := ⟨gb390, 2, none⟩) (Kd.R_far (p := ⟨gb390, 1, none⟩) (Kd.R_far (p := ⟨gb390, 0, none⟩) (Kd.R_types HO386.out BK390.out (by decide)) (fun _ hk => hk.2) (.int .i64 t381)) (fun _ hk => hk.2) (.int .i64 t382)) (fun _ hk => hk.2) (.int .i64 t383)) (fun _ hk => hk.2) (.slice Ao31 t384.length co31)) (fun _ hk => hk.2) (.int .i64 t387)) (fun _ hk => hk.2) (.int .i64 t388)) (fun _ hk => hk.2) (.int .i64 t389)) (fun _ h_ => h_.1))) (Kd.R_base ho0) hb); have n1_ := Aside0.mk (Kd.R_lower (Kd.R_new' ho0 (Kd.R_lt (by (with_reducible repeat (first | apply Kd.R_alloc | apply Kd.R_drewN | apply Kd.R_drew)); exact (Kd.R_mono (Kd.R_far (p := ⟨gb390, 6, none⟩) (Kd.R_far (p := ⟨gb390, 5, none⟩) (Kd.R_far (p := ⟨gb390, 4, none⟩) (Kd.R_far (p := ⟨gb390, 3, none⟩) (Kd.R_far (p := ⟨gb390, 2, none⟩) (Kd.R_far (p := ⟨gb390, 1, none⟩) (Kd.R_far (p := ⟨gb390, 0, none⟩) (Kd.R_types HO386.out BK390.out (by decide)) (fun _ hk => hk.2) (.int .i64 t381)) (fun _ hk => hk.2) (.int .i64 t382)) (fun _ hk => hk.2) (.int .i64 t383)) (fun _ hk => hk.2) (.slice Ao31 t384.length co31)) (fun _ hk => hk.2) (.int .i64 t387)) (fun _ hk => hk.2) (.int .i64 t388)) (fun _ hk => hk.2) (.int .i64 t389)) (fun _ h_ => h_.1))))) (below_size (by repeat (first | (with_reducible first | exact HB.out | apply below_alloc | apply pw_below_drewN | apply below_drew1 | refine below_set ?_ GE376.out | refine below_set ?_ GE390.out) | exact HB.out)))); have n2_ := Aside0.mk (blk_below (g := gb376) (o := .cells #[.int .i64 0, .int .i64 0, .int .i64 0, .slice none 0 0, .int .i64 0, .int .i64 0, .int .i64 0] 38 (0, 0)) (by (with_reducible repeat (first | refine blk_drewN ?_ _ | refine blk_drew ?_ | refine blk_alloc ?_ _)); refine blk_far ?_ NB376_390.out _; (with_reducible repeat (first | refine blk_drewN ?_ _ | refine blk_drew ?_ | refine blk_alloc ?_ _)); refine blk_far ?_ NB376_390.out _; (with_reducible repeat (first | refine blk_drewN ?_ _ | refine blk_drew ?_ | refine blk_alloc ?_ _)); refine blk_far ?_ NB376_390.out _; (with_reducible repeat (first | refine blk_drewN ?_ _ | refine blk_drew ?_ | refine blk_alloc ?_ _)); refine blk_far ?_ NB376_390.out _; (with_reducible repeat (first | refine blk_drewN ?_ _ | refine blk_drew ?_ | refine blk_alloc ?_ _)); refine blk_far ?_ NB376_390.out _; (with_reducible repeat (first | refine blk_drewN ?_ _ | refine blk_drew ?_ | refine blk_alloc ?_ _)); refine blk_far ?_ NB376_390.out _; (with_reducible repeat (first | refine blk_drewN ?_ _ | refine blk_drew ?_ | refine blk_alloc ?_ _)); refine blk_far ?_ NB376_390.out _; (with_reducible repeat (first | refine blk_drewN ?_ _ | refine blk_drew ?_ | refine blk_alloc ?_ _)); exact BK376.out) hb); have n3_ := Aside0.mk (blk_below (g := gb390) (o := .cells #[.int .i64 t381, .int .i64 t382, .int .i64 t383, .slice Ao31 t384.length co31, .int .i64 t387, .int .i64 t388, .int .i64 t389] 38 (0, 0)) (by (with_reducible repeat (first | refine blk_drewN ?_ _ | refine blk_drew ?_ | refine blk_alloc ?_ _)); refine blk_put (cs := #[.int .i64 t381, .int .i64 t382, .int .i64 t383, .slice Ao31 t384.length co31, .int .i64 t387, .int .i64 t388, .int .i64 0]) ?_ 6 _ rfl; (with_reducible repeat (first | refine blk_drewN ?_ _ | refine blk_drew ?_ | refine blk_alloc ?_ _)); refine blk_put (cs := #[.int .i64 t381, .int .i64 t382, .int .i64 t383, .slice Ao31 t384.length co31, .int .i64 t387, .int .i64 0, .int .i64 0]) ?_ 5 _ rfl; (with_reducible repeat (first | refine blk_drewN ?_ _ | refine blk_drew ?_ | refine blk_alloc ?_ _)); refine blk_put (cs := #[.int .i64 t381, .int .i64 t382, .int .i64 t383, .slice Ao31 t384.length co31, .int .i64 0, .int .i64 0, .int .i64 0]) ?_ 4 _ rfl; (with_reducible repeat (first | refine blk_drewN ?_ _ | refine blk_drew ?_ | refine blk_alloc ?_ _)); refine blk_put (cs := #[.int .i64 t381, .int .i64 t382, .int .i64 t383, .slice none 0 0, .int .i64 0, .int .i64 0, .int .i64 0]) ?_ 3 _ rfl; (with_reducible repeat (first | refine blk_drewN ?_ _ | refine blk_drew ?_ | refine blk_alloc ?_ _)); refine blk_put (cs := #[.int .i64 t381, .int .i64 t382, .int .i64 0, .slice none 0 0, .int .i64 0, .int .i64 0, .int .i64 0]) ?_ 2 _ rfl; (with_reducible repeat (first | refine blk_drewN ?_ _ | refine blk_drew ?_ | refine blk_alloc ?_ _)); refine blk_put (cs := #[.int .i64 t381, .int .i64 0, .int .i64 0, .slice none 0 0, .int .i64 0, .int .i64 0, .int .i64 0]) ?_ 1 _ rfl; (with_reducible repeat (first | refine blk_drewN ?_ _ | refine blk_drew ?_ | refine blk_alloc ?_ _)); refine blk_put (cs := #[.int .i64 0, .int .i64 0, .int .i64 0, .slice none 0 0, .int .i64 0, .int .i64 0, .int .i64 0]) ?_ 0 _ rfl; (with_reducible repeat (first | refine blk_drewN ?_ _ | refine blk_drew ?_ | refine blk_alloc ?_ _)); exact BK390.out) hb); have n4_ := Aside0.mk (below_step (by repeat (first | (with_reducible first | exact HB.out | apply below_alloc | apply pw_below_drewN | apply below_drew1 | refine below_set ?_ GE376.out | refine below_set ?_ GE390.out) | exact HB.out)) hb); clear HO386; clear BK376; clear BK390; clear HB; have HO386 := n0_; have HO393 := n1_; have BK376 := n2_; have BK390 := n3_; have HB := n4_; clear n0_ n1_ n2_ n3_ n4_; (try clear hb); (try clear hb2); (try clear hk); (try clear hi); (try clear ho0)))
            have n0_ := Aside0.mk (Kd.R_drew HO386.out)
            have n1_ := Aside0.mk (Kd.R_drew HO393.out)
            have n2_ := Aside0.mk (blk_drew BK376.out)
            have n3_ := Aside0.mk (blk_drew BK390.out)
            have n4_ := Aside0.mk (below_drew1 HB.out)
            clear HO386
            clear HO393
            clear BK376
            clear BK390
            clear HB
            have HO386 := n0_
            have HO393 := n1_
            have BK376 := n2_
            have BK390 := n3_
            have HB := n4_
            clear n0_ n1_ n2_ n3_ n4_
            obtain ⟨i040, hi040, _, hsz40, _⟩ := info_parts info5
            obtain ⟨hcut40, hA40, hC40⟩ := print_take_of (P := Try.prog) (Value.int .u8) 0 27 5 .i64 Try.underlying27 hi040 hsz40 (some ad377) c0 l0 (ji17) (of_decide_eq_true (by first | (with_reducible assumption) | assumption)) (of_decide_eq_true (by first | (with_reducible assumption) | assumption)) HC0.out
            have HR395 := Aside0.mk (Kd.C_of_reads (h1 := fun _ => rfl) (hA40 _ (Kd.reads_of_C HR0.out)))
            have HC395 := Aside0.mk hC40
            clear hA40 hC40 hi040 hsz40
            refine start_ (n := 12) (S := fun w' => (convert 27 9 (v392)).run Try.prog w' = .ok (.string (strOfNums t391)) w' ∧ (convert 27 9 (.slice (some ad377) (ji17).toNat c0)).run Try.prog w' = .ok (.string (strOfNums (l0.take ((ji17) : Int).toNat))) w') (ds := []) #[false, false, false, false, false, false, false, false, false, false, false, false] (by kernel_rfl) rfl rfl ⟨(own_string (P := Try.prog) Try.underlying27 Try.underlying5 Try.underlying9 (Kd.own_of_R HO393.out)), (by have h_ := (Kd.C_string (P := Try.prog) (A := (some ad377)) (c := c0) Try.underlying27 Try.underlying5 Try.underlying9 (Kd.C_below HR395.out HB.out)); rw [show (l0.take ((ji17) : Int).toNat).length = (ji17).toNat from (by rw [List.length_take]; have h_ : ((ji17) : Int) ≤ (l0.length : Int) := of_decide_eq_true (by first | (with_reducible assumption) | assumption); omega)] at h_; exact h_)⟩ (fun hHeld => ?_); refine with_tabW waggonerref16_Read_p.tab8 waggonerref16_Read_p.bits8 (fun HT_ HW_ => ?_)
            generalize w38.drew = w39 at HO386 HO393 BK376 BK390 HB HR395 hHeld ⊢
            refine pure_ (i := 0) (N := some 43) (v := ?_) (a' := ?_) #[true, false, false, false, false, false, false, false, false, false, false, false] rfl rfl (any_of HT_.out (by kernel_rfl)) (fun _ _ _ h => h) (Or.inl ⟨by rfl, ?_⟩) ?_ ?_
            rotate_left
            ·intro w'
             go_simp
             with_reducible rfl
            rotate_left
            ·simp only [Act.put, Kx.sb, Kx.sz, Kx.ss, i64_w, i32_w]
             rfl
            refine pure_ (i := 1) (N := some 44) (v := ?_) (a' := ?_) #[true, true, false, false, false, false, false, false, false, false, false, false] rfl rfl (any_of HT_.out (by kernel_rfl)) (fun _ _ _ h => h) (Or.inl ⟨by rfl, ?_⟩) ?_ ?_
            rotate_left
            ·intro w'
             go_simp
             with_reducible rfl
            rotate_left
            ·simp only [Act.put, Kx.sb, Kx.sz, Kx.ss, i64_w, i32_w]
             rfl
            refine pure_ (i := 2) (N := some 45) (v := ?_) (a' := ?_) #[true, true, true, false, false, false, false, false, false, false, false, false] rfl rfl (any_of HT_.out (by kernel_rfl)) (fun _ _ _ h => h) (Or.inl ⟨by rfl, ?_⟩) ?_ ?_
            rotate_left
            ·intro w'
             go_simp
             with_reducible rfl
            rotate_left
            ·simp only [Act.put, Kx.sb, Kx.sz, Kx.ss, i64_w, i32_w]
             rfl
            refine pure_ (i := 3) (N := some 46) (v := ?_) (a' := ?_) #[true, true, true, true, false, false, false, false, false, false, false, false] rfl rfl (any_of HT_.out (by kernel_rfl)) (fun _ _ _ h => h) (Or.inl ⟨by rfl, ?_⟩) ?_ ?_
            rotate_left
            ·intro w'
             go_simp
             with_reducible rfl
            rotate_left
            ·simp only [Act.put, Kx.sb, Kx.sz, Kx.ss, i64_w, i32_w]
             rfl
            refine pure_ (i := 5) (N := some 48) (v := ?_) (a' := ?_) #[true, true, true, true, false, true, false, false, false, false, false, false] rfl rfl (any_of HT_.out (by kernel_rfl)) (fun _ _ _ h => h) (Or.inl ⟨by rfl, ?_⟩) ?_ ?_
            rotate_left
            ·intro w'
             go_simp
             with_reducible rfl
            rotate_left
            ·simp only [Act.put, Kx.sb, Kx.sz, Kx.ss, i64_w, i32_w]
             rfl
            refine pure_ (i := 6) (N := some 49) (v := ?_) (a' := ?_) #[true, true, true, true, false, true, true, false, false, false, false, false] rfl rfl (any_of HT_.out (by kernel_rfl)) (fun _ _ _ h => h) (Or.inl ⟨by rfl, ?_⟩) ?_ ?_
            rotate_left
            ·intro w'
             go_simp
             with_reducible rfl
            rotate_left
            ·simp only [Act.put, Kx.sb, Kx.sz, Kx.ss, i64_w, i32_w]
             rfl
            refine pure_ (i := 7) (N := some 50) (v := ?_) (a' := ?_) #[true, true, true, true, false, true, true, true, false, false, false, false] rfl rfl (any_of HT_.out (by kernel_rfl)) (fun _ _ _ h => h) (Or.inl ⟨by rfl, ?_⟩) ?_ ?_
            rotate_left
            ·intro w'
             go_simp
             with_reducible rfl
            rotate_left
            ·simp only [Act.put, Kx.sb, Kx.sz, Kx.ss, i64_w, i32_w]
             rfl
            refine pure_ (i := 8) (N := some 51) (v := ?_) (a' := ?_) #[true, true, true, true, false, true, true, true, true, false, false, false] rfl rfl (any_of HT_.out (by kernel_rfl)) (fun _ _ _ h => h) (Or.inl ⟨by rfl, ?_⟩) ?_ ?_
            rotate_left
            ·intro w'
             go_simp
             with_reducible rfl
            rotate_left
            ·simp only [Act.put, Kx.sb, Kx.sz, Kx.ss, i64_w, i32_w]
             rfl
            refine take_ (i := 4) (N := some 47) (v := ?_) (a' := ?_) #[true, true, true, true, true, true, true, true, true, false, false, false] rfl rfl (take_ofW HT_.out HW_.out (by kernel_rfl)) (fun _ _ _ h => h) (Or.inl ⟨by rfl, ?_⟩) hHeld ?_ ?_
            rotate_left
            ·rintro w' ⟨s0, s1⟩
             go_simp
             with_reducible rfl
            rotate_left
            ·simp only [Act.put, Kx.sb, Kx.sz, Kx.ss, i64_w, i32_w]
             rfl
            refine take_ (i := 9) (N := some 52) (v := ?_) (a' := ?_) #[true, true, true, true, true, true, true, true, true, true, false, false] rfl rfl (take_ofW HT_.out HW_.out (by kernel_rfl)) (fun _ _ _ h => h) (Or.inl ⟨by rfl, ?_⟩) hHeld ?_ ?_
            rotate_left
            ·rintro w' ⟨s0, s1⟩
             go_simp
             with_reducible rfl
            rotate_left
            ·simp only [Act.put, Kx.sb, Kx.sz, Kx.ss, i64_w, i32_w]
             rfl
            refine pure_ (i := 10) (N := some 53) (v := ?_) (a' := ?_) #[true, true, true, true, true, true, true, true, true, true, true, false] rfl rfl (any_of HT_.out (by kernel_rfl)) (fun _ _ _ h => h) (Or.inl ⟨by rfl, ?_⟩) ?_ ?_
            rotate_left
            ·intro w'
             go_simp
             with_reducible rfl
            rotate_left
            ·simp only [Act.put, Kx.sb, Kx.sz, Kx.ss, i64_w, i32_w]
             rfl
            refine pure_ (i := 11) (N := some 54) (v := ?_) (a' := ?_) #[true, true, true, true, true, true, true, true, true, true, true, true] rfl rfl (any_of HT_.out (by kernel_rfl)) (fun _ _ _ h => h) (Or.inl ⟨by rfl, ?_⟩) ?_ ?_
            rotate_left
            ·intro w'
             go_simp
             with_reducible rfl
            rotate_left
            ·simp only [Act.put, Kx.sb, Kx.sz, Kx.ss, i64_w, i32_w]
             rfl
            refine done_ (done_of HT_.out (by kernel_rfl)) ?_
            have hcz41_0 : w39.cell? ⟨gb390, 0, none⟩ = some (.int .i64 t381) := (blk_cell BK390.out 0).trans rfl
            have hcz41_1 : w39.cell? ⟨gb390, 1, none⟩ = some (.int .i64 t382) := (blk_cell BK390.out 1).trans rfl
            have hcz41_2 : w39.cell? ⟨gb390, 2, none⟩ = some (.int .i64 t383) := (blk_cell BK390.out 2).trans rfl
            have hcz41_3 : w39.cell? ⟨gb390, 3, none⟩ = some (.slice Ao31 t384.length co31) := (blk_cell BK390.out 3).trans rfl
            have hcz41_4 : w39.cell? ⟨gb390, 4, none⟩ = some (.int .i64 t387) := (blk_cell BK390.out 4).trans rfl
            have hcz41_5 : w39.cell? ⟨gb390, 5, none⟩ = some (.int .i64 t388) := (blk_cell BK390.out 5).trans rfl
            have hcz41_6 : w39.cell? ⟨gb390, 6, none⟩ = some (.int .i64 t389) := (blk_cell BK390.out 6).trans rfl
            have hfz41_0 := blk_frozen BK390.out 0
            have hfz41_1 := blk_frozen BK390.out 1
            have hfz41_2 := blk_frozen BK390.out 2
            have hfz41_3 := blk_frozen BK390.out 3
            have hfz41_4 := blk_frozen BK390.out 4
            have hfz41_5 := blk_frozen BK390.out 5
            have hfz41_6 := blk_frozen BK390.out 6
            have hcz42_0 : w39.cell? ⟨gb376, 0, none⟩ = some (.int .i64 0) := (blk_cell BK376.out 0).trans rfl
            have hcz42_1 : w39.cell? ⟨gb376, 1, none⟩ = some (.int .i64 0) := (blk_cell BK376.out 1).trans rfl
            have hcz42_2 : w39.cell? ⟨gb376, 2, none⟩ = some (.int .i64 0) := (blk_cell BK376.out 2).trans rfl
            have hcz42_3 : w39.cell? ⟨gb376, 3, none⟩ = some (.slice none 0 0) := (blk_cell BK376.out 3).trans rfl
            have hcz42_4 : w39.cell? ⟨gb376, 4, none⟩ = some (.int .i64 0) := (blk_cell BK376.out 4).trans rfl
            have hcz42_5 : w39.cell? ⟨gb376, 5, none⟩ = some (.int .i64 0) := (blk_cell BK376.out 5).trans rfl
            have hcz42_6 : w39.cell? ⟨gb376, 6, none⟩ = some (.int .i64 0) := (blk_cell BK376.out 6).trans rfl
            have hfz42_0 := blk_frozen BK376.out 0
            have hfz42_1 := blk_frozen BK376.out 1
            have hfz42_2 := blk_frozen BK376.out 2
            have hfz42_3 := blk_frozen BK376.out 3
            have hfz42_4 := blk_frozen BK376.out 4
            have hfz42_5 := blk_frozen BK376.out 5
            have hfz42_6 := blk_frozen BK376.out 6
            try go_wp2
            refine bodyPost_ret (results_ctt rfl _ _ gb376 38 #[.int .i64 t381, .int .i64 t382, .int .i64 t383, .slice Ao31 t384.length co31, .int .i64 t387, .int .i64 t388, .int .i64 t389] (0, 0) _ rfl (by (with_reducible repeat (first | refine blk_drewN ?_ _ | refine blk_drew ?_ | refine blk_alloc ?_ _)); refine blk_put (cs := #[.int .i64 t381, .int .i64 t382, .int .i64 t383, .slice Ao31 t384.length co31, .int .i64 t387, .int .i64 t388, .int .i64 0]) ?_ 6 _ rfl; (with_reducible repeat (first | refine blk_drewN ?_ _ | refine blk_drew ?_ | refine blk_alloc ?_ _)); refine blk_put (cs := #[.int .i64 t381, .int .i64 t382, .int .i64 t383, .slice Ao31 t384.length co31, .int .i64 t387, .int .i64 0, .int .i64 0]) ?_ 5 _ rfl; (with_reducible repeat (first | refine blk_drewN ?_ _ | refine blk_drew ?_ | refine blk_alloc ?_ _)); refine blk_put (cs := #[.int .i64 t381, .int .i64 t382, .int .i64 t383, .slice Ao31 t384.length co31, .int .i64 0, .int .i64 0, .int .i64 0]) ?_ 4 _ rfl; (with_reducible repeat (first | refine blk_drewN ?_ _ | refine blk_drew ?_ | refine blk_alloc ?_ _)); refine blk_put (cs := #[.int .i64 t381, .int .i64 t382, .int .i64 t383, .slice none 0 0, .int .i64 0, .int .i64 0, .int .i64 0]) ?_ 3 _ rfl; (with_reducible repeat (first | refine blk_drewN ?_ _ | refine blk_drew ?_ | refine blk_alloc ?_ _)); refine blk_put (cs := #[.int .i64 t381, .int .i64 t382, .int .i64 0, .slice none 0 0, .int .i64 0, .int .i64 0, .int .i64 0]) ?_ 2 _ rfl; (with_reducible repeat (first | refine blk_drewN ?_ _ | refine blk_drew ?_ | refine blk_alloc ?_ _)); refine blk_put (cs := #[.int .i64 t381, .int .i64 0, .int .i64 0, .slice none 0 0, .int .i64 0, .int .i64 0, .int .i64 0]) ?_ 1 _ rfl; (with_reducible repeat (first | refine blk_drewN ?_ _ | refine blk_drew ?_ | refine blk_alloc ?_ _)); refine blk_put (cs := #[.int .i64 0, .int .i64 0, .int .i64 0, .slice none 0 0, .int .i64 0, .int .i64 0, .int .i64 0]) ?_ 0 _ rfl; (with_reducible repeat (first | refine blk_drewN ?_ _ | refine blk_drew ?_ | refine blk_alloc ?_ _)); exact BK376.out) Try.underlying38 rfl (by kernel_rfl)) rfl ?_
            exact ⟨_, by first | rfl | (simp [errW_none, errW_some] <;> rfl) | (simp only [← hji17]; first | rfl | (simp [errW_none, errW_some] <;> rfl)) | (simp [*, errW_none, errW_some] <;> rfl), by (with_reducible repeat (first | apply Kd.R_alloc | apply Kd.R_drewN | apply Kd.R_drew)); exact Kd.R_mono (Kd.R_far (p := ⟨gb376, 6, none⟩) (Kd.R_far (p := ⟨gb376, 5, none⟩) (Kd.R_far (p := ⟨gb376, 4, none⟩) (Kd.R_far (p := ⟨gb376, 3, none⟩) (Kd.R_far (p := ⟨gb376, 2, none⟩) (Kd.R_far (p := ⟨gb376, 1, none⟩) (Kd.R_far (p := ⟨gb376, 0, none⟩) (Kd.R_types HO386.out BK376.out (by decide)) (fun _ hk => hk.2) (.int .i64 t381)) (fun _ hk => hk.2) (.int .i64 t382)) (fun _ hk => hk.2) (.int .i64 t383)) (fun _ hk => hk.2) (.slice Ao31 t384.length co31)) (fun _ hk => hk.2) (.int .i64 t387)) (fun _ hk => hk.2) (.int .i64 t388)) (fun _ hk => hk.2) (.int .i64 t389)) (fun _ hk => trivial), by repeat (first | (with_reducible first | exact HB.out | apply below_alloc | apply pw_below_drewN | apply below_drew1 | refine below_set ?_ GE376.out | refine below_set ?_ GE390.out) | exact HB.out)⟩
           ·rw [if_neg c20] at H
            have c20b0 : ((strOfNums t391).toList == (strOfNums (l0.take ((ji17) : Int).toNat)).toList) = false := beq_eq_false_iff_ne.mpr c20
            have c20b1 : ((strOfNums t391).toList != (strOfNums (l0.take ((ji17) : Int).toNat)).toList) = true := bne_iff_ne.mpr c20
            simp only [Option.some.injEq, Prod.mk.injEq] at H
            obtain ⟨rfl, rfl, rfl, rfl, rfl, rfl, rfl, rfl, rfl⟩ := H
            go_enter Try.func22, Try.ntmps22
            try go_wp2_with (first | ((with_reducible refine gate_dst (N := 2) rfl ?_); refine box_event ?hg (N := 2) ?hd (cs := #[.int .i64 0, .int .i64 0, .int .i64 0, .slice none 0 0, .int .i64 0, .int .i64 0, .int .i64 0]) (t := 38) ?hr ?_; (case hd => rfl); (case hg => rfl); (case hr => first | (go_simp; done) | (go_simp; rfl)); intro gb376 hg w43 hbox hb; have n0_ := Aside0.mk (below_step (by repeat (first | (with_reducible first | exact HB.out | apply below_alloc | apply pw_below_drewN | apply below_drew1) | exact HB.out)) hb); have n1_ := Aside0.mk (hbox); have n2_ := Aside0.mk ((by rw [hg]; exact (below_size (by repeat (first | (with_reducible first | exact HB.out | apply below_alloc | apply pw_below_drewN | apply below_drew1) | exact HB.out))) : w.heap.size ≤ gb376)); have n3_ := Aside0.mk ((by rw [hg]; exact (below_size (by repeat (first | (with_reducible first | exact HB.out | apply below_alloc | apply pw_below_drewN | apply below_drew1) | exact HB.out))) : w.heap.size ≤ gb376)); clear HB; have HB := n0_; have BK376 := n1_; have GW376 := n2_; have GE376 := n3_; clear n0_ n1_ n2_ n3_; clear hb hbox hg))
            have n0_ := Aside0.mk (blk_drew BK376.out)
            have n1_ := Aside0.mk (below_drew1 HB.out)
            clear BK376
            clear HB
            have BK376 := n0_
            have HB := n1_
            clear n0_ n1_
            have p377 : 0 ≤ (1 : Int) := (by omega)
            have q377 : 1 < (l0.length : Int) := of_decide_eq_true (by first | (with_reducible assumption) | assumption)
            obtain ⟨ad377, e377, hx377_0⟩ := Kd.at_int HR0.out 1 p377 q377
            have hw377_0 := hx377_0
            (try rw [show ((1 : Int)).toNat = 1 from rfl] at hw377_0)
            (try rw [show 1 * 1 = 1 from rfl] at hw377_0)
            (try simp only [Nat.reduceMul, Nat.reduceEqDiff, Go.Addr.add, ↓reduceIte] at hw377_0)
            cases e377
            (try simp only [show (1 : Int).toNat = 1 from rfl, Nat.reduceMul, Nat.reduceEqDiff, Go.Addr.add, ↓reduceIte] at hx377_0)
            have qi377 : (1 < l0.length) = True := eq_true (by omega)
            (try rw [show ((1 : Int)).toNat = 1 from rfl] at hx377_0)
            replace hx377_0 := (HB.out.cell (World.block_lt_of_cell? w _ hx377_0)).trans hx377_0
            replace p377 := eq_true p377
            replace q377 := eq_true q377
            have p378 : 0 ≤ (2 : Int) := (by omega)
            have q378 : 2 < (l0.length : Int) := of_decide_eq_true (by first | (with_reducible assumption) | assumption)
            obtain ⟨ad378, e378, hx378_0⟩ := Kd.at_int HR0.out 2 p378 q378
            have hw378_0 := hx378_0
            (try rw [show ((2 : Int)).toNat = 2 from rfl] at hw378_0)
            (try rw [show 2 * 1 = 2 from rfl] at hw378_0)
            (try simp only [Nat.reduceMul, Nat.reduceEqDiff, Go.Addr.add, ↓reduceIte] at hw378_0)
            obtain rfl : ad377 = ad378 := (by injection e378)
            (try simp only [show (2 : Int).toNat = 2 from rfl, Nat.reduceMul, Nat.reduceEqDiff, Go.Addr.add, ↓reduceIte] at hx378_0)
            have qi378 : (2 < l0.length) = True := eq_true (by omega)
            (try rw [show ((2 : Int)).toNat = 2 from rfl] at hx378_0)
            replace hx378_0 := (HB.out.cell (World.block_lt_of_cell? w _ hx378_0)).trans hx378_0
            replace p378 := eq_true p378
            replace q378 := eq_true q378
            refine start_ (n := 11) (S := fun w' => w'.cell? ⟨ad377.block, ad377.off + 1, none⟩ = some (.int .u8 (rd l0 1)) ∧ w'.cell? ⟨ad377.block, ad377.off + 2, none⟩ = some (.int .u8 (rd l0 2))) (ds := []) #[false, false, false, false, false, false, false, false, false, false, false] (by kernel_rfl) rfl rfl ⟨((HB.out.cell (World.block_lt_of_cell? w _ hw377_0)).trans hw377_0), ((HB.out.cell (World.block_lt_of_cell? w _ hw378_0)).trans hw378_0)⟩ (fun hHeld => ?_); refine with_tabW waggonerref16_Read_p.tab3 waggonerref16_Read_p.bits3 (fun HT_ HW_ => ?_)
            generalize w43.drew = w44 at BK376 HB hx377_0 hx378_0 hHeld ⊢
            refine pure_ (i := 0) (N := some 13) (v := ?_) (a' := ?_) #[true, false, false, false, false, false, false, false, false, false, false] rfl rfl (any_of HT_.out (by kernel_rfl)) (fun _ _ _ h => h) (Or.inl ⟨by rfl, ?_⟩) ?_ ?_
            rotate_left
            ·intro w'
             go_simp
             with_reducible rfl
            rotate_left
            ·simp only [Act.put, Kx.sb, Kx.sz, Kx.ss, i64_w, i32_w]
             rfl
            refine pure_ (i := 1) (N := some 14) (v := ?_) (a' := ?_) #[true, true, false, false, false, false, false, false, false, false, false] rfl rfl (any_of HT_.out (by kernel_rfl)) (fun _ _ _ h => h) (Or.inl ⟨by rfl, ?_⟩) ?_ ?_
            rotate_left
            ·intro w'
             go_simp
             with_reducible rfl
            rotate_left
            ·simp only [Act.put, Kx.sb, Kx.sz, Kx.ss, i64_w, i32_w]
             rfl
            refine pure_ (i := 4) (N := some 17) (v := ?_) (a' := ?_) #[true, true, false, false, true, false, false, false, false, false, false] rfl rfl (any_of HT_.out (by kernel_rfl)) (fun _ _ _ h => h) (Or.inl ⟨by rfl, ?_⟩) ?_ ?_
            rotate_left
            ·intro w'
             go_simp
             with_reducible rfl
            rotate_left
            ·simp only [Act.put, Kx.sb, Kx.sz, Kx.ss, i64_w, i32_w]
             rfl
            refine pure_ (i := 5) (N := some 18) (v := ?_) (a' := ?_) #[true, true, false, false, true, true, false, false, false, false, false] rfl rfl (any_of HT_.out (by kernel_rfl)) (fun _ _ _ h => h) (Or.inl ⟨by rfl, ?_⟩) ?_ ?_
            rotate_left
            ·intro w'
             go_simp
             with_reducible rfl
            rotate_left
            ·simp only [Act.put, Kx.sb, Kx.sz, Kx.ss, i64_w, i32_w]
             rfl
            refine take_ (i := 2) (N := some 15) (v := ?_) (a' := ?_) #[true, true, true, false, true, true, false, false, false, false, false] rfl rfl (take_ofW HT_.out HW_.out (by kernel_rfl)) (fun _ _ _ h => h) (Or.inl ⟨by rfl, ?_⟩) hHeld ?_ ?_
            rotate_left
            ·rintro w' ⟨s0, s1⟩
             go_simp
             with_reducible rfl
            rotate_left
            ·simp only [Act.put, Kx.sb, Kx.sz, Kx.ss, i64_w, i32_w]
             rfl
            refine pure_ (i := 3) (N := some 16) (v := ?_) (a' := ?_) #[true, true, true, true, true, true, false, false, false, false, false] rfl rfl (any_of HT_.out (by kernel_rfl)) (fun _ _ _ h => h) (Or.inl ⟨by rfl, ?_⟩) ?_ ?_
            rotate_left
            ·intro w'
             go_simp
             with_reducible rfl
            rotate_left
            ·simp only [Act.put, Kx.sb, Kx.sz, Kx.ss, i64_w, i32_w]
             rfl
            refine take_ (i := 6) (N := some 19) (v := ?_) (a' := ?_) #[true, true, true, true, true, true, true, false, false, false, false] rfl rfl (take_ofW HT_.out HW_.out (by kernel_rfl)) (fun _ _ _ h => h) (Or.inl ⟨by rfl, ?_⟩) hHeld ?_ ?_
            rotate_left
            ·rintro w' ⟨s0, s1⟩
             go_simp
             with_reducible rfl
            rotate_left
            ·simp only [Act.put, Kx.sb, Kx.sz, Kx.ss, i64_w, i32_w]
             rfl
            refine pure_ (i := 7) (N := some 20) (v := ?_) (a' := ?_) #[true, true, true, true, true, true, true, true, false, false, false] rfl rfl (any_of HT_.out (by kernel_rfl)) (fun _ _ _ h => h) (Or.inl ⟨by rfl, ?_⟩) ?_ ?_
            rotate_left
            ·intro w'
             go_simp
             with_reducible rfl
            rotate_left
            ·simp only [Act.put, Kx.sb, Kx.sz, Kx.ss, i64_w, i32_w]
             rfl
            refine pure_ (i := 8) (N := some 21) (v := ?_) (a' := ?_) #[true, true, true, true, true, true, true, true, true, false, false] rfl rfl (any_of HT_.out (by kernel_rfl)) (fun _ _ _ h => h) (Or.inl ⟨by rfl, ?_⟩) ?_ ?_
            rotate_left
            ·intro w'
             go_simp
             with_reducible rfl
            rotate_left
            ·simp only [Act.put, Kx.sb, Kx.sz, Kx.ss, i64_w, i32_w]
             rfl
            refine pure_ (i := 9) (N := some 22) (v := ?_) (a' := ?_) #[true, true, true, true, true, true, true, true, true, true, false] rfl rfl (any_of HT_.out (by kernel_rfl)) (fun _ _ _ h => h) (Or.inl ⟨by rfl, ?_⟩) ?_ ?_
            rotate_left
            ·intro w'
             go_simp
             with_reducible rfl
            rotate_left
            ·simp only [Act.put, Kx.sb, Kx.sz, Kx.ss, i64_w, i32_w]
             rfl
            refine pure_ (i := 10) (N := some 5) (v := ?_) (a' := ?_) #[true, true, true, true, true, true, true, true, true, true, true] rfl rfl (any_of HT_.out (by kernel_rfl)) (fun _ _ _ h => h) (Or.inl ⟨by rfl, ?_⟩) ?_ ?_
            rotate_left
            ·intro w'
             go_simp
             with_reducible rfl
            rotate_left
            ·simp only [Act.put, Kx.sb, Kx.sz, Kx.ss, i64_w, i32_w]
             rfl
            refine done_ (done_of HT_.out (by kernel_rfl)) ?_
            try go_wp2
            have n0_ := Aside0.mk (blk_drew BK376.out)
            have n1_ := Aside0.mk (below_drew1 HB.out)
            clear BK376
            clear HB
            have BK376 := n0_
            have HB := n1_
            clear n0_ n1_
            have p379 : 0 ≤ (0 : Int) := (by omega)
            have q379 : 0 < (l0.length : Int) := of_decide_eq_true (by first | (with_reducible assumption) | assumption)
            obtain ⟨ad379, e379, hx379_0⟩ := Kd.at_int HR0.out 0 p379 q379
            have hw379_0 := hx379_0
            (try rw [show ((0 : Int)).toNat = 0 from rfl] at hw379_0)
            (try rw [show 0 * 1 = 0 from rfl] at hw379_0)
            (try rw [Addr.add_zero'] at hw379_0)
            obtain rfl : ad377 = ad379 := (by injection e379)
            have qi379 : (0 < l0.length) = True := eq_true (by omega)
            (try rw [show ((0 : Int)).toNat = 0 from rfl] at hx379_0)
            (try rw [Addr.add_zero'] at hx379_0)
            replace hx379_0 := (HB.out.cell (World.block_lt_of_cell? w _ hx379_0)).trans hx379_0
            replace p379 := eq_true p379
            replace q379 := eq_true q379
            obtain ⟨i046, hi046, _, hsz46, _⟩ := info_parts info5
            obtain ⟨A46, hcut46, hA46, hC46⟩ := print_mid_of (P := Try.prog) (Value.int .u8) 0 27 5 .i64 .i64 Try.underlying27 hi046 hsz46 (some ad377) c0 l0 3 (wrap64 (3 + (wrap64 ((wrap64 (rd l0 1)) + (wrap64 (256 * (wrap64 (rd l0 2)))))))) (by omega) (by first | omega | exact of_decide_eq_true (by first | (with_reducible assumption) | assumption)) (of_decide_eq_true (by first | (with_reducible assumption) | assumption)) HC0.out
            have HR380 := Aside0.mk (Kd.C_of_reads (h1 := fun _ => rfl) (hA46 _ (Kd.reads_of_C HR0.out)))
            have HC380 := Aside0.mk hC46
            clear hA46 hC46 hi046 hsz46
            refine start_ (n := 11) (S := fun w' => w'.cell? ad377 = some (.int .u8 (rd l0 0))) (ds := [10]) #[false, false, false, false, false, false, false, false, false, false, false] (by kernel_rfl) rfl rfl (((HB.out.cell (World.block_lt_of_cell? w _ hw379_0)).trans hw379_0)) (fun hHeld => ?_); refine with_tabW waggonerref16_Read_p.tab6 waggonerref16_Read_p.bits6 (fun HT_ HW_ => ?_)
            generalize w44.drew = w45 at BK376 HB HR380 hx379_0 hHeld ⊢
            refine pure_ (i := 0) (N := some 29) (v := ?_) (a' := ?_) #[true, false, false, false, false, false, false, false, false, false, false] rfl rfl (any_of HT_.out (by kernel_rfl)) (fun _ _ _ h => h) (Or.inl ⟨by rfl, ?_⟩) ?_ ?_
            rotate_left
            ·intro w'
             go_simp
             with_reducible rfl
            rotate_left
            ·simp only [Act.put, Kx.sb, Kx.sz, Kx.ss, i64_w, i32_w]
             rfl
            refine pure_ (i := 1) (N := some 30) (v := ?_) (a' := ?_) #[true, true, false, false, false, false, false, false, false, false, false] rfl rfl (any_of HT_.out (by kernel_rfl)) (fun _ _ _ h => h) (Or.inl ⟨by rfl, ?_⟩) ?_ ?_
            rotate_left
            ·intro w'
             go_simp
             with_reducible rfl
            rotate_left
            ·simp only [Act.put, Kx.sb, Kx.sz, Kx.ss, i64_w, i32_w]
             rfl
            refine pure_ (i := 4) (N := some 33) (v := ?_) (a' := ?_) #[true, true, false, false, true, false, false, false, false, false, false] rfl rfl (any_of HT_.out (by kernel_rfl)) (fun _ _ _ h => h) (Or.inl ⟨by rfl, ?_⟩) ?_ ?_
            rotate_left
            ·intro w'
             go_simp
             with_reducible rfl
            rotate_left
            ·simp only [Act.put, Kx.sb, Kx.sz, Kx.ss, i64_w, i32_w]
             rfl
            refine pure_ (i := 5) (N := some 34) (v := ?_) (a' := ?_) #[true, true, false, false, true, true, false, false, false, false, false] rfl rfl (any_of HT_.out (by kernel_rfl)) (fun _ _ _ h => h) (Or.inl ⟨by rfl, ?_⟩) ?_ ?_
            rotate_left
            ·intro w'
             go_simp
             with_reducible rfl
            rotate_left
            ·simp only [Act.put, Kx.sb, Kx.sz, Kx.ss, i64_w, i32_w]
             rfl
            refine pure_ (i := 6) (N := some 35) (v := ?_) (a' := ?_) #[true, true, false, false, true, true, true, false, false, false, false] rfl rfl (any_of HT_.out (by kernel_rfl)) (fun _ _ _ h => h) (Or.inl ⟨by rfl, ?_⟩) ?_ ?_
            rotate_left
            ·intro w'
             go_simp
             with_reducible rfl
            rotate_left
            ·simp only [Act.put, Kx.sb, Kx.sz, Kx.ss, i64_w, i32_w]
             rfl
            refine pure_ (i := 7) (N := some 36) (v := ?_) (a' := ?_) #[true, true, false, false, true, true, true, true, false, false, false] rfl rfl (any_of HT_.out (by kernel_rfl)) (fun _ _ _ h => h) (Or.inl ⟨by rfl, ?_⟩) ?_ ?_
            rotate_left
            ·intro w'
             go_simp
             with_reducible rfl
            rotate_left
            ·simp only [Act.put, Kx.sb, Kx.sz, Kx.ss, i64_w, i32_w]
             rfl
            refine take_ (i := 2) (N := some 31) (v := ?_) (a' := ?_) #[true, true, true, false, true, true, true, true, false, false, false] rfl rfl (take_ofW HT_.out HW_.out (by kernel_rfl)) (fun _ _ _ h => h) (Or.inl ⟨by rfl, ?_⟩) hHeld ?_ ?_
            rotate_left
            ·intro w' s0
             go_simp
             with_reducible rfl
            rotate_left
            ·simp only [Act.put, Kx.sb, Kx.sz, Kx.ss, i64_w, i32_w]
             rfl
            refine pure_ (i := 3) (N := some 32) (v := ?_) (a' := ?_) #[true, true, true, true, true, true, true, true, false, false, false] rfl rfl (any_of HT_.out (by kernel_rfl)) (fun _ _ _ h => h) (Or.inl ⟨by rfl, ?_⟩) ?_ ?_
            rotate_left
            ·intro w'
             go_simp
             with_reducible rfl
            rotate_left
            ·simp only [Act.put, Kx.sb, Kx.sz, Kx.ss, i64_w, i32_w]
             rfl
            refine join_ (σ := Value × Nat) 1 #[true, true, true, true, true, true, true, true, true, true, false] (fun s_ => [(37, .agg #[.int .i64 t381, .int .i64 t382, .int .i64 t383, s_.1, .int .i64 t387, .int .i64 t388, .int .i64 t389]), (6, .pointer (some ⟨s_.2, 0, none⟩))]) (fun s_ w' => (w'.cell? ad377 = some (.int .u8 (rd l0 0))) ∧ (Kd.R (Kd.int .u8) 5 w' w.heap.size (fun _ => True) s_.1 t384) ∧ (w'.heap[gb376]? = some (.cells #[.int .i64 0, .int .i64 0, .int .i64 0, .slice none 0 0, .int .i64 0, .int .i64 0, .int .i64 0] 38 (0, 0))) ∧ (w'.heap[s_.2]? = some (.cells #[.int .i64 0, .int .i64 0, .int .i64 0, .slice none 0 0, .int .i64 0, .int .i64 0, .int .i64 0] 38 (0, 0))) ∧ (w.heap.size ≤ s_.2) ∧ (w.heap.size ≤ s_.2) ∧ (gb376 ≠ s_.2) ∧ (s_.2 ≠ gb376) ∧ (Below w.heap.size w w')) ?_ ?_
            rotate_left
            ·intro hCont
             refine two_ (i := 8) (j := 9) (Ni := some 37) (Nj := some 6) #[true, true, true, true, true, true, true, true, true, false, false] #[true, true, true, true, true, true, true, true, false, true, false] rfl rfl rfl rfl (two_of HT_.out (by kernel_rfl)) (by decide) (by decide) (fun K hK => ?_) (fun K hK => ?_)
             ·skip
              refine goes_ Try.func48 (by kernel_rfl) rfl #[.int .i64 (wrap64 (rd l0 0)), .slice A46 ((l0.take ((wrap64 (3 + (wrap64 ((wrap64 (rd l0 1)) + (wrap64 (256 * (wrap64 (rd l0 2)))))))) : Int).toNat).drop 3).length (c0 - 3)] (by rfl) rfl rfl (by (try simp only [List.map_toArray, List.map_cons, List.map_nil]); first | done | (rw [show ((l0.take ((wrap64 (3 + (wrap64 ((wrap64 (rd l0 1)) + (wrap64 (256 * (wrap64 (rd l0 2)))))))) : Int).toNat).drop 3).length = ((wrap64 (3 + (wrap64 ((wrap64 (rd l0 1)) + (wrap64 (256 * (wrap64 (rd l0 2)))))))).toNat - 3) from (by rw [List.length_drop, List.length_take]; have h_ : ((wrap64 (3 + (wrap64 ((wrap64 (rd l0 1)) + (wrap64 (256 * (wrap64 (rd l0 2)))))))) : Int) ≤ (l0.length : Int) := of_decide_eq_true (by first | (with_reducible assumption) | assumption); omega)] <;> rfl) | rfl | (simp only [List.length_drop, List.length_take]; rfl)) ?_
              with_reducible refine (waggonerref16_may.calls (wrap64 (rd l0 0)) _ _ ((l0.take ((wrap64 (3 + (wrap64 ((wrap64 (rd l0 1)) + (wrap64 (256 * (wrap64 (rd l0 2)))))))) : Int).toNat).drop 3) t381 t382 t383 t384 t387 t388 t389 _ ?side1 ?side2 A14.out).mono ?_
              (case side1 => repeat (first | exact (Kd.C_below HR380.out HB.out) | (with_reducible refine Kd.C_alloc ?_ _) | (with_reducible refine Kd.C_drewN ?_ _) | (with_reducible refine Kd.C_drew ?_)))
              (case side2 => exact HC380.out)
              rintro e w47 ⟨v385, rfl, ho0, hb⟩
              refine ⟨_, rfl, ?_⟩
              have n0_ := Aside0.mk (Kd.R_lower ho0 (below_size (by repeat (first | (with_reducible first | exact HB.out | apply below_alloc | apply pw_below_drewN | apply below_drew1 | refine below_set ?_ GE376.out) | exact HB.out))))
              have n1_ := Aside0.mk (blk_below (g := gb376) (o := .cells #[.int .i64 0, .int .i64 0, .int .i64 0, .slice none 0 0, .int .i64 0, .int .i64 0, .int .i64 0] 38 (0, 0)) (by (with_reducible repeat (first | refine blk_drewN ?_ _ | refine blk_drew ?_ | refine blk_alloc ?_ _)); exact BK376.out) hb)
              have n2_ := Aside0.mk (below_step (by repeat (first | (with_reducible first | exact HB.out | apply below_alloc | apply pw_below_drewN | apply below_drew1 | refine below_set ?_ GE376.out) | exact HB.out)) hb)
              clear BK376
              clear HB
              have HO386 := n0_
              have BK376 := n1_
              have HB := n2_
              clear n0_ n1_ n2_
              (try clear hb)
              (try clear hb2)
              (try clear hk)
              (try clear hi)
              (try clear ho0)
              refine hK.out _ _ (((HB.out.cell (World.block_lt_of_cell? w _ hw379_0)).trans hw379_0)) (fun hHeld => ?_)
              clear hK K
              refine norm_ (a' := ?_) ?_ ?_
              rotate_left
              ·show Act.put _ (some 37) _ = _
               simp only [Act.put, Kx.sb, Kx.sz, Kx.ss, i64_w, i32_w]
               rfl
              refine one_ (i := 9) (N := some 6) #[true, true, true, true, true, true, true, true, true, true, false] rfl rfl (one_of HT_.out (by kernel_rfl)) (by decide) (fun K hK => ?_)
              refine box_step ?hg (N := 6) ?hd (cs := #[.int .i64 0, .int .i64 0, .int .i64 0, .slice none 0 0, .int .i64 0, .int .i64 0, .int .i64 0]) (t := 38) ?hr ?_; (case hd => rfl); (case hg => rfl); (case hr => first | (go_simp; done) | (go_simp; rfl))
              intro gb390 hg w48 hbox hb
              have n0_ := Aside0.mk (Kd.R_below (by (with_reducible repeat (first | apply Kd.R_alloc | apply Kd.R_drewN | apply Kd.R_drew)); exact HO386.out) hb)
              have n1_ := Aside0.mk (blk_below (g := gb376) (o := .cells #[.int .i64 0, .int .i64 0, .int .i64 0, .slice none 0 0, .int .i64 0, .int .i64 0, .int .i64 0] 38 (0, 0)) (by (with_reducible repeat (first | refine blk_drewN ?_ _ | refine blk_drew ?_ | refine blk_alloc ?_ _)); exact BK376.out) hb)
              have n2_ := Aside0.mk (below_step (by repeat (first | (with_reducible first | exact HB.out | apply below_alloc | apply pw_below_drewN | apply below_drew1 | refine below_set ?_ GE376.out) | exact HB.out)) hb)
              have n3_ := Aside0.mk (hbox)
              have n4_ := Aside0.mk ((by rw [hg]; exact (below_size (by repeat (first | (with_reducible first | exact HB.out | apply below_alloc | apply pw_below_drewN | apply below_drew1 | refine below_set ?_ GE376.out) | exact HB.out))) : w.heap.size ≤ gb390))
              have n5_ := Aside0.mk ((by rw [hg]; exact (below_size (by repeat (first | (with_reducible first | exact HB.out | apply below_alloc | apply pw_below_drewN | apply below_drew1 | refine below_set ?_ GE376.out) | exact HB.out))) : w.heap.size ≤ gb390))
              have n6_ := Aside0.mk ((by rw [hg]; exact Nat.ne_of_lt (blk_lt (g := gb376) (o := .cells #[.int .i64 0, .int .i64 0, .int .i64 0, .slice none 0 0, .int .i64 0, .int .i64 0, .int .i64 0] 38 (0, 0)) (by (with_reducible repeat (first | refine blk_drewN ?_ _ | refine blk_drew ?_ | refine blk_alloc ?_ _)); exact BK376.out)) : gb376 ≠ gb390))
              have n7_ := Aside0.mk ((by rw [hg]; exact Nat.ne_of_gt (blk_lt (g := gb376) (o := .cells #[.int .i64 0, .int .i64 0, .int .i64 0, .slice none 0 0, .int .i64 0, .int .i64 0, .int .i64 0] 38 (0, 0)) (by (with_reducible repeat (first | refine blk_drewN ?_ _ | refine blk_drew ?_ | refine blk_alloc ?_ _)); exact BK376.out)) : gb390 ≠ gb376))
              clear HO386
              clear BK376
              clear HB
              have HO386 := n0_
              have BK376 := n1_
              have HB := n2_
              have BK390 := n3_
              have GW390 := n4_
              have GE390 := n5_
              have NB376_390 := n6_
              have NB390_376 := n7_
              clear n0_ n1_ n2_ n3_ n4_ n5_ n6_ n7_
              clear hb hbox hg
              refine hK.out _ _ (((HB.out.cell (World.block_lt_of_cell? w _ hw379_0)).trans hw379_0)) (fun hHeld => ?_)
              clear hK K
              refine norm_ (a' := ?_) ?_ ?_
              rotate_left
              ·show Act.put _ (some 6) _ = _
               simp only [Act.put, Kx.sb, Kx.sz, Kx.ss, i64_w, i32_w]
               rfl
              exact norm_ (by simp only [putAll, Act.put, Kx.sb, Kx.sz, Kx.ss]) (hCont (v385, gb390) _ ⟨hHeld, (by (with_reducible repeat (first | apply Kd.R_alloc | apply Kd.R_drewN | apply Kd.R_drew)); exact HO386.out), (by (with_reducible repeat (first | refine blk_drewN ?_ _ | refine blk_drew ?_ | refine blk_alloc ?_ _)); exact BK376.out), (by (with_reducible repeat (first | refine blk_drewN ?_ _ | refine blk_drew ?_ | refine blk_alloc ?_ _)); exact BK390.out), GW390.out, GE390.out, NB376_390.out, NB390_376.out, (by repeat (first | (with_reducible first | exact HB.out | apply below_alloc | apply pw_below_drewN | apply below_drew1 | refine below_set ?_ GE376.out | refine below_set ?_ GE390.out) | exact HB.out))⟩)
             ·skip
              refine box_step ?hg (N := 6) ?hd (cs := #[.int .i64 0, .int .i64 0, .int .i64 0, .slice none 0 0, .int .i64 0, .int .i64 0, .int .i64 0]) (t := 38) ?hr ?_; (case hd => rfl); (case hg => rfl); (case hr => first | (go_simp; done) | (go_simp; rfl))
              intro gb390 hg w47 hbox hb
              have n0_ := Aside0.mk (blk_below (g := gb376) (o := .cells #[.int .i64 0, .int .i64 0, .int .i64 0, .slice none 0 0, .int .i64 0, .int .i64 0, .int .i64 0] 38 (0, 0)) (by (with_reducible repeat (first | refine blk_drewN ?_ _ | refine blk_drew ?_ | refine blk_alloc ?_ _)); exact BK376.out) hb)
              have n1_ := Aside0.mk (below_step (by repeat (first | (with_reducible first | exact HB.out | apply below_alloc | apply pw_below_drewN | apply below_drew1 | refine below_set ?_ GE376.out) | exact HB.out)) hb)
              have n2_ := Aside0.mk (hbox)
              have n3_ := Aside0.mk ((by rw [hg]; exact (below_size (by repeat (first | (with_reducible first | exact HB.out | apply below_alloc | apply pw_below_drewN | apply below_drew1 | refine below_set ?_ GE376.out) | exact HB.out))) : w.heap.size ≤ gb390))
              have n4_ := Aside0.mk ((by rw [hg]; exact (below_size (by repeat (first | (with_reducible first | exact HB.out | apply below_alloc | apply pw_below_drewN | apply below_drew1 | refine below_set ?_ GE376.out) | exact HB.out))) : w.heap.size ≤ gb390))
              have n5_ := Aside0.mk ((by rw [hg]; exact Nat.ne_of_lt (blk_lt (g := gb376) (o := .cells #[.int .i64 0, .int .i64 0, .int .i64 0, .slice none 0 0, .int .i64 0, .int .i64 0, .int .i64 0] 38 (0, 0)) (by (with_reducible repeat (first | refine blk_drewN ?_ _ | refine blk_drew ?_ | refine blk_alloc ?_ _)); exact BK376.out)) : gb376 ≠ gb390))
              have n6_ := Aside0.mk ((by rw [hg]; exact Nat.ne_of_gt (blk_lt (g := gb376) (o := .cells #[.int .i64 0, .int .i64 0, .int .i64 0, .slice none 0 0, .int .i64 0, .int .i64 0, .int .i64 0] 38 (0, 0)) (by (with_reducible repeat (first | refine blk_drewN ?_ _ | refine blk_drew ?_ | refine blk_alloc ?_ _)); exact BK376.out)) : gb390 ≠ gb376))
              clear BK376
              clear HB
              have BK376 := n0_
              have HB := n1_
              have BK390 := n2_
              have GW390 := n3_
              have GE390 := n4_
              have NB376_390 := n5_
              have NB390_376 := n6_
              clear n0_ n1_ n2_ n3_ n4_ n5_ n6_
              clear hb hbox hg
              refine hK.out _ _ (((HB.out.cell (World.block_lt_of_cell? w _ hw379_0)).trans hw379_0)) (fun hHeld => ?_)
              clear hK K
              refine norm_ (a' := ?_) ?_ ?_
              rotate_left
              ·show Act.put _ (some 6) _ = _
               simp only [Act.put, Kx.sb, Kx.sz, Kx.ss, i64_w, i32_w]
               rfl
              refine one_ (i := 8) (N := some 37) #[true, true, true, true, true, true, true, true, true, true, false] rfl rfl (one_of HT_.out (by kernel_rfl)) (by decide) (fun K hK => ?_)
              refine goes_ Try.func48 (by kernel_rfl) rfl #[.int .i64 (wrap64 (rd l0 0)), .slice A46 ((l0.take ((wrap64 (3 + (wrap64 ((wrap64 (rd l0 1)) + (wrap64 (256 * (wrap64 (rd l0 2)))))))) : Int).toNat).drop 3).length (c0 - 3)] (by rfl) rfl rfl (by (try simp only [List.map_toArray, List.map_cons, List.map_nil]); first | done | (rw [show ((l0.take ((wrap64 (3 + (wrap64 ((wrap64 (rd l0 1)) + (wrap64 (256 * (wrap64 (rd l0 2)))))))) : Int).toNat).drop 3).length = ((wrap64 (3 + (wrap64 ((wrap64 (rd l0 1)) + (wrap64 (256 * (wrap64 (rd l0 2)))))))).toNat - 3) from (by rw [List.length_drop, List.length_take]; have h_ : ((wrap64 (3 + (wrap64 ((wrap64 (rd l0 1)) + (wrap64 (256 * (wrap64 (rd l0 2)))))))) : Int) ≤ (l0.length : Int) := of_decide_eq_true (by first | (with_reducible assumption) | assumption); omega)] <;> rfl) | rfl | (simp only [List.length_drop, List.length_take]; rfl)) ?_
              with_reducible refine (waggonerref16_may.calls (wrap64 (rd l0 0)) _ _ ((l0.take ((wrap64 (3 + (wrap64 ((wrap64 (rd l0 1)) + (wrap64 (256 * (wrap64 (rd l0 2)))))))) : Int).toNat).drop 3) t381 t382 t383 t384 t387 t388 t389 _ ?side1 ?side2 A14.out).mono ?_
              (case side1 => repeat (first | exact (Kd.C_below HR380.out HB.out) | (with_reducible refine Kd.C_alloc ?_ _) | (with_reducible refine Kd.C_drewN ?_ _) | (with_reducible refine Kd.C_drew ?_)))
              (case side2 => exact HC380.out)
              rintro e w48 ⟨v385, rfl, ho0, hb⟩
              refine ⟨_, rfl, ?_⟩
              have n0_ := Aside0.mk (Kd.R_lower ho0 (below_size (by repeat (first | (with_reducible first | exact HB.out | apply below_alloc | apply pw_below_drewN | apply below_drew1 | refine below_set ?_ GE376.out | refine below_set ?_ GE390.out) | exact HB.out))))
              have n1_ := Aside0.mk (blk_below (g := gb376) (o := .cells #[.int .i64 0, .int .i64 0, .int .i64 0, .slice none 0 0, .int .i64 0, .int .i64 0, .int .i64 0] 38 (0, 0)) (by (with_reducible repeat (first | refine blk_drewN ?_ _ | refine blk_drew ?_ | refine blk_alloc ?_ _)); exact BK376.out) hb)
              have n2_ := Aside0.mk (blk_below (g := gb390) (o := .cells #[.int .i64 0, .int .i64 0, .int .i64 0, .slice none 0 0, .int .i64 0, .int .i64 0, .int .i64 0] 38 (0, 0)) (by (with_reducible repeat (first | refine blk_drewN ?_ _ | refine blk_drew ?_ | refine blk_alloc ?_ _)); exact BK390.out) hb)
              have n3_ := Aside0.mk (below_step (by repeat (first | (with_reducible first | exact HB.out | apply below_alloc | apply pw_below_drewN | apply below_drew1 | refine below_set ?_ GE376.out | refine below_set ?_ GE390.out) | exact HB.out)) hb)
              clear BK376
              clear BK390
              clear HB
              have HO386 := n0_
              have BK376 := n1_
              have BK390 := n2_
              have HB := n3_
              clear n0_ n1_ n2_ n3_
              (try clear hb)
              (try clear hb2)
              (try clear hk)
              (try clear hi)
              (try clear ho0)
              refine hK.out _ _ (((HB.out.cell (World.block_lt_of_cell? w _ hw379_0)).trans hw379_0)) (fun hHeld => ?_)
              clear hK K
              refine norm_ (a' := ?_) ?_ ?_
              rotate_left
              ·show Act.put _ (some 37) _ = _
               simp only [Act.put, Kx.sb, Kx.sz, Kx.ss, i64_w, i32_w]
               rfl
              exact norm_ (by simp only [putAll, Act.put, Kx.sb, Kx.sz, Kx.ss]) (hCont (v385, gb390) _ ⟨hHeld, (by (with_reducible repeat (first | apply Kd.R_alloc | apply Kd.R_drewN | apply Kd.R_drew)); exact HO386.out), (by (with_reducible repeat (first | refine blk_drewN ?_ _ | refine blk_drew ?_ | refine blk_alloc ?_ _)); exact BK376.out), (by (with_reducible repeat (first | refine blk_drewN ?_ _ | refine blk_drew ?_ | refine blk_alloc ?_ _)); exact BK390.out), GW390.out, GE390.out, NB376_390.out, NB390_376.out, (by repeat (first | (with_reducible first | exact HB.out | apply below_alloc | apply pw_below_drewN | apply below_drew1 | refine below_set ?_ GE376.out | refine below_set ?_ GE390.out) | exact HB.out))⟩)
            rintro ⟨v385, gb390⟩ w49 ⟨hS_, h0_, h1_, h2_, h3_, h4_, h5_, h6_, h7_⟩
            have n0_ : Aside0 (Kd.R (Kd.int .u8) 5 w49 w.heap.size (fun _ => True) v385 t384) := ⟨h0_⟩
            have n1_ : Aside0 (w49.heap[gb376]? = some (.cells #[.int .i64 0, .int .i64 0, .int .i64 0, .slice none 0 0, .int .i64 0, .int .i64 0, .int .i64 0] 38 (0, 0))) := ⟨h1_⟩
            have n2_ : Aside0 (w49.heap[gb390]? = some (.cells #[.int .i64 0, .int .i64 0, .int .i64 0, .slice none 0 0, .int .i64 0, .int .i64 0, .int .i64 0] 38 (0, 0))) := ⟨h2_⟩
            have n3_ : Aside0 (w.heap.size ≤ gb390) := ⟨h3_⟩
            have n4_ : Aside0 (w.heap.size ≤ gb390) := ⟨h4_⟩
            have n5_ : Aside0 (gb376 ≠ gb390) := ⟨h5_⟩
            have n6_ : Aside0 (gb390 ≠ gb376) := ⟨h6_⟩
            have n7_ : Aside0 (Below w.heap.size w w49) := ⟨h7_⟩
            clear BK376
            clear HB
            clear h0_ h1_ h2_ h3_ h4_ h5_ h6_ h7_
            have HO386 := n0_
            have BK376 := n1_
            have BK390 := n2_
            have GW390 := n3_
            have GE390 := n4_
            have NB376_390 := n5_
            have NB390_376 := n6_
            have HB := n7_
            clear n0_ n1_ n2_ n3_ n4_ n5_ n6_ n7_
            have hHeld : w49.cell? ad377 = some (.int .u8 (rd l0 0)) := hS_
            obtain ⟨Ao53, co53, eo53⟩ := Kd.R_slice HO386.out
            (first | subst eo53 | (injection eo53 with f1_ f2_ f3_; have f4_ := f1_.symm; have f5_ := f3_.symm; clear f1_ f2_ f3_; subst f4_; subst f5_))
            refine norm_ (a' := ?_) ?_ ?_
            rotate_left
            ·simp only [putAll, Act.put, Kx.sb, Kx.sz, Kx.ss]
             rfl
            refine last_ (i := 10) (N := none) #[true, true, true, true, true, true, true, true, true, true, true] rfl rfl (one_of HT_.out (by kernel_rfl)) (by decide) (fun K hK => ?_)
            have hs50 : w49.cell? ⟨gb390, 0, none⟩ = some (.int .i64 0) := (blk_cell BK390.out 0).trans rfl
            have hfs50 := blk_frozen BK390.out 0
            have hns50_0 := NB376_390.out
            have hms50_0 := NB390_376.out
            have hs51 : w49.cell? ⟨gb390, 1, none⟩ = some (.int .i64 0) := (blk_cell BK390.out 1).trans rfl
            have hfs51 := blk_frozen BK390.out 1
            have hns51_0 := NB376_390.out
            have hms51_0 := NB390_376.out
            have hs52 : w49.cell? ⟨gb390, 2, none⟩ = some (.int .i64 0) := (blk_cell BK390.out 2).trans rfl
            have hfs52 := blk_frozen BK390.out 2
            have hns52_0 := NB376_390.out
            have hms52_0 := NB390_376.out
            have hs54 : w49.cell? ⟨gb390, 3, none⟩ = some (.slice none 0 0) := (blk_cell BK390.out 3).trans rfl
            have hfs54 := blk_frozen BK390.out 3
            have hns54_0 := NB376_390.out
            have hms54_0 := NB390_376.out
            have hs55 : w49.cell? ⟨gb390, 4, none⟩ = some (.int .i64 0) := (blk_cell BK390.out 4).trans rfl
            have hfs55 := blk_frozen BK390.out 4
            have hns55_0 := NB376_390.out
            have hms55_0 := NB390_376.out
            have hs56 : w49.cell? ⟨gb390, 5, none⟩ = some (.int .i64 0) := (blk_cell BK390.out 5).trans rfl
            have hfs56 := blk_frozen BK390.out 5
            have hns56_0 := NB376_390.out
            have hms56_0 := NB390_376.out
            have hs57 : w49.cell? ⟨gb390, 6, none⟩ = some (.int .i64 0) := (blk_cell BK390.out 6).trans rfl
            have hfs57 := blk_frozen BK390.out 6
            have hns57_0 := NB376_390.out
            have hms57_0 := NB390_376.out
            refine skip_ (w1 := ?_) (by rfl) rfl ?_ ?_
            rotate_left
            ·go_simp
             rfl
            refine hK.out _ _ ?_
            clear hK K
            refine done_ (done_of HT_.out (by kernel_rfl)) ?_
            have hnb58 := NB390_376.out
            have hnc58 := NB376_390.out
            have hcz59_0 : w49.cell? ⟨gb390, 0, none⟩ = some (.int .i64 0) := (blk_cell BK390.out 0).trans rfl
            have hcz59_1 : w49.cell? ⟨gb390, 1, none⟩ = some (.int .i64 0) := (blk_cell BK390.out 1).trans rfl
            have hcz59_2 : w49.cell? ⟨gb390, 2, none⟩ = some (.int .i64 0) := (blk_cell BK390.out 2).trans rfl
            have hcz59_3 : w49.cell? ⟨gb390, 3, none⟩ = some (.slice none 0 0) := (blk_cell BK390.out 3).trans rfl
            have hcz59_4 : w49.cell? ⟨gb390, 4, none⟩ = some (.int .i64 0) := (blk_cell BK390.out 4).trans rfl
            have hcz59_5 : w49.cell? ⟨gb390, 5, none⟩ = some (.int .i64 0) := (blk_cell BK390.out 5).trans rfl
            have hcz59_6 : w49.cell? ⟨gb390, 6, none⟩ = some (.int .i64 0) := (blk_cell BK390.out 6).trans rfl
            have hfz59_0 := blk_frozen BK390.out 0
            have hfz59_1 := blk_frozen BK390.out 1
            have hfz59_2 := blk_frozen BK390.out 2
            have hfz59_3 := blk_frozen BK390.out 3
            have hfz59_4 := blk_frozen BK390.out 4
            have hfz59_5 := blk_frozen BK390.out 5
            have hfz59_6 := blk_frozen BK390.out 6
            try go_wp2_with (first | ((with_reducible refine gate_callee (f := 20) rfl ?_); refine goesL_ (some 40) rfl rfl Try.func20 (by kernel_rfl) rfl #[.agg #[.int .i64 t381, .int .i64 t382, .int .i64 t383, .slice Ao53 t384.length co53, .int .i64 t387, .int .i64 t388, .int .i64 t389]] rfl (by (try simp only [List.map_toArray, List.map_cons, List.map_nil]); first | done | rfl | (simp only [List.length_drop, List.length_take]; rfl)) ?_; (with_reducible refine (waggonerref16_Write.calls t381 t382 t383 _ _ t384 t387 t388 t389 t391 t394 _ ?side1 ?side2 A15.out).mono ?_); (case side1 => refine (Kd.R_reads' (e := 5) (base := w.heap.size) (ok := fun k_ => True) (n := t384.length) (c := co53) ?_).2.2; exact (by (with_reducible repeat (first | apply Kd.R_alloc | apply Kd.R_drewN | apply Kd.R_drew)); exact (Kd.R_mono (Kd.R_far (p := ⟨gb390, 6, none⟩) (Kd.R_far (p := ⟨gb390, 5, none⟩) (Kd.R_far (p := ⟨gb390, 4, none⟩) (Kd.R_far (p := ⟨gb390, 3, none⟩) (Kd.R_far (p := ⟨gb390, 2, none⟩) (Kd.R_far (p := ⟨gb390, 1, none⟩) (Kd.R_far (p := ⟨gb390, 0, none⟩) (Kd.R_types HO386.out BK390.out (by decide)) (fun _ hk => hk.2) (.int .i64 t381)) (fun _ hk => hk.2) (.int .i64 t382)) (fun _ hk => hk.2) (.int .i64 t383)) (fun _ hk => hk.2) (.slice Ao53 t384.length co53)) (fun _ hk => hk.2) (.int .i64 t387)) (fun _ hk => hk.2) (.int .i64 t388)) (fun _ hk => hk.2) (.int .i64 t389)) (fun _ h_ => h_.1)))); (case side2 => exact (Kd.R_reads' HO386.out).2.1); rintro e w60 ⟨v392, rfl, ho0, hb⟩; refine ⟨_, rfl, ?_⟩; have n0_ := Aside0.mk (Kd.R_elder' (by (with_reducible repeat (first | apply Kd.R_alloc | apply Kd.R_drewN | apply Kd.R_drew)); exact (Kd.R_mono (Kd.R_far (p := ⟨gb390, 6, none⟩) (Kd.R_far (p := ⟨gb390, 5, none⟩) (Kd.R_far (p := ⟨gb390, 4, none⟩) (Kd.R_far (p := ⟨gb390, 3, none⟩) (Kd.R_far (p := ⟨gb390, 2, none⟩) (Kd.R_far (p := ⟨gb390, 1, none⟩) (Kd.R_far (p := ⟨gb390, 0, none⟩) (Kd.R_types HO386.out BK390.out (by decide)) (fun _ hk => hk.2) (.int .i64 t381)) (fun _ hk => hk.2) (.int .i64 t382)) (fun _ hk => hk.2) (.int .i64 t383)) (fun _ hk => hk.2) (.slice Ao53 t384.length co53)) (fun _ hk => hk.2) (.int .i64 t387)) (fun _ hk => hk.2) (.int .i64 t388)) (fun _ hk => hk.2) (.int .i64 t389)) (fun _ h_ => h_.1))) (Kd.R_base ho0) hb); have n1_ := Aside0.mk (Kd.R_lower (Kd.R_new' ho0 (Kd.R_lt (by (with_reducible repeat (first | apply Kd.R_alloc | apply Kd.R_drewN | apply Kd.R_drew)); exact (Kd.R_mono (Kd.R_far (p := ⟨gb390, 6, none⟩) (Kd.R_far (p := ⟨gb390, 5, none⟩) (Kd.R_far (p := ⟨gb390, 4, none⟩) (Kd.R_far (p := ⟨gb390, 3, none⟩) (Kd.R_far (p := ⟨gb390, 2, none⟩) (Kd.R_far (p := ⟨gb390, 1, none⟩) (Kd.R_far (p := ⟨gb390, 0, none⟩) (Kd.R_types HO386.out BK390.out (by decide)) (fun _ hk => hk.2) (.int .i64 t381)) (fun _ hk => hk.2) (.int .i64 t382)) (fun _ hk => hk.2) (.int .i64 t383)) (fun _ hk => hk.2) (.slice Ao53 t384.length co53)) (fun _ hk => hk.2) (.int .i64 t387)) (fun _ hk => hk.2) (.int .i64 t388)) (fun _ hk => hk.2) (.int .i64 t389)) (fun _ h_ => h_.1))))) (below_size (by repeat (first | (with_reducible first | exact HB.out | apply below_alloc | apply pw_below_drewN | apply below_drew1 | refine below_set ?_ GE376.out | refine below_set ?_ GE390.out) | exact HB.out)))); have n2_ := Aside0.mk (blk_below (g := gb376) (o := .cells #[.int .i64 0, .int .i64 0, .int .i64 0, .slice none 0 0, .int .i64 0, .int .i64 0, .int .i64 0] 38 (0, 0)) (by (with_reducible repeat (first | refine blk_drewN ?_ _ | refine blk_drew ?_ | refine blk_alloc ?_ _)); refine blk_far ?_ NB376_390.out _; (with_reducible repeat (first | refine blk_drewN ?_ _ | refine blk_drew ?_ | refine blk_alloc ?_ _)); refine blk_far ?_ NB376_390.out _; (with_reducible repeat (first | refine blk_drewN ?_ _ | refine blk_drew ?_ | refine blk_alloc ?_ _)); refine blk_far ?_ NB376_390.out _; (with_reducible repeat (first | refine blk_drewN ?_ _ | refine blk_drew ?_ | refine blk_alloc ?_ _)); refine blk_far ?_ NB376_390.out _; (with_reducible repeat (first | refine blk_drewN ?_ _ | refine blk_drew ?_ | refine blk_alloc ?_ _)); refine blk_far ?_ NB376_390.out _; (with_reducible repeat (first | refine blk_drewN ?_ _ | refine blk_drew ?_ | refine blk_alloc ?_ _)); refine blk_far ?_ NB376_390.out _; (with_reducible repeat (first | refine blk_drewN ?_ _ | refine blk_drew ?_ | refine blk_alloc ?_ _)); refine blk_far ?_ NB376_390.out _; (with_reducible repeat (first | refine blk_drewN ?_ _ | refine blk_drew ?_ | refine blk_alloc ?_ _)); exact BK376.out) hb); have n3_ := Aside0.mk (blk_below (g := gb390) (o := .cells #[.int .i64 t381, .int .i64 t382, .int .i64 t383, .slice Ao53 t384.length co53, .int .i64 t387, .int .i64 t388, .int .i64 t389] 38 (0, 0)) (by (with_reducible repeat (first | refine blk_drewN ?_ _ | refine blk_drew ?_ | refine blk_alloc ?_ _)); refine blk_put (cs := #[.int .i64 t381, .int .i64 t382, .int .i64 t383, .slice Ao53 t384.length co53, .int .i64 t387, .int .i64 t388, .int .i64 0]) ?_ 6 _ rfl; (with_reducible repeat (first | refine blk_drewN ?_ _ | refine blk_drew ?_ | refine blk_alloc ?_ _)); refine blk_put (cs := #[.int .i64 t381, .int .i64 t382, .int .i64 t383, .slice Ao53 t384.length co53, .int .i64 t387, .int .i64 0, .int .i64 0]) ?_ 5 _ rfl; (with_reducible repeat (first | refine blk_drewN ?_ _ | refine blk_drew ?_ | refine blk_alloc ?_ _)); refine blk_put (cs := #[.int .i64 t381, .int .i64 t382, .int .i64 t383, .slice Ao53 t384.length co53, .int .i64 0, .int .i64 0, .int .i64 0]) ?_ 4 _ rfl; (with_reducible repeat (first | refine blk_drewN ?_ _ | refine blk_drew ?_ | refine blk_alloc ?_ _)); refine blk_put (cs := #[.int .i64 t381, .int .i64 t382, .int .i64 t383, .slice none 0 0, .int .i64 0, .int .i64 0, .int .i64 0]) ?_ 3 _ rfl; (with_reducible repeat (first | refine blk_drewN ?_ _ | refine blk_drew ?_ | refine blk_alloc ?_ _)); refine blk_put (cs := #[.int .i64 t381, .int .i64 t382, .int .i64 0, .slice none 0 0, .int .i64 0, .int .i64 0, .int .i64 0]) ?_ 2 _ rfl; (with_reducible repeat (first | refine blk_drewN ?_ _ | refine blk_drew ?_ | refine blk_alloc ?_ _)); refine blk_put (cs := #[.int .i64 t381, .int .i64 0, .int .i64 0, .slice none 0 0, .int .i64 0, .int .i64 0, .int .i64 0]) ?_ 1 _ rfl; (with_reducible repeat (first | refine blk_drewN ?_ _ | refine blk_drew ?_ | refine blk_alloc ?_ _)); refine blk_put (cs := #[.int .i64 0, .int .i64 0, .int .i64 0, .slice none 0 0, .int .i64 0, .int .i64 0, .int .i64 0]) ?_ 0 _ rfl; (with_reducible repeat (first | refine blk_drewN ?_ _ | refine blk_drew ?_ | refine blk_alloc ?_ _)); exact BK390.out) hb); have n4_ := Aside0.mk (below_step (by repeat (first | (with_reducible first | exact HB.out | apply below_alloc | apply pw_below_drewN | apply below_drew1 | refine below_set ?_ GE376.out | refine below_set ?_ GE390.out) | exact HB.out)) hb); clear HO386; clear BK376; clear BK390; clear HB; have HO386 := n0_; have HO393 := n1_; have BK376 := n2_; have BK390 := n3_; have HB := n4_; clear n0_ n1_ n2_ n3_ n4_; (try clear hb); (try clear hb2); (try clear hk); (try clear hi); (try clear ho0)))
            have n0_ := Aside0.mk (Kd.R_drew HO386.out)
            have n1_ := Aside0.mk (Kd.R_drew HO393.out)
            have n2_ := Aside0.mk (blk_drew BK376.out)
            have n3_ := Aside0.mk (blk_drew BK390.out)
            have n4_ := Aside0.mk (below_drew1 HB.out)
            clear HO386
            clear HO393
            clear BK376
            clear BK390
            clear HB
            have HO386 := n0_
            have HO393 := n1_
            have BK376 := n2_
            have BK390 := n3_
            have HB := n4_
            clear n0_ n1_ n2_ n3_ n4_
            obtain ⟨i062, hi062, _, hsz62, _⟩ := info_parts info5
            obtain ⟨hcut62, hA62, hC62⟩ := print_take_of (P := Try.prog) (Value.int .u8) 0 27 5 .i64 Try.underlying27 hi062 hsz62 (some ad377) c0 l0 (ji17) (of_decide_eq_true (by first | (with_reducible assumption) | assumption)) (of_decide_eq_true (by first | (with_reducible assumption) | assumption)) HC0.out
            have HR395 := Aside0.mk (Kd.C_of_reads (h1 := fun _ => rfl) (hA62 _ (Kd.reads_of_C HR0.out)))
            have HC395 := Aside0.mk hC62
            clear hA62 hC62 hi062 hsz62
            refine start_ (n := 12) (S := fun w' => (convert 27 9 (v392)).run Try.prog w' = .ok (.string (strOfNums t391)) w' ∧ (convert 27 9 (.slice (some ad377) (ji17).toNat c0)).run Try.prog w' = .ok (.string (strOfNums (l0.take ((ji17) : Int).toNat))) w') (ds := []) #[false, false, false, false, false, false, false, false, false, false, false, false] (by kernel_rfl) rfl rfl ⟨(own_string (P := Try.prog) Try.underlying27 Try.underlying5 Try.underlying9 (Kd.own_of_R HO393.out)), (by have h_ := (Kd.C_string (P := Try.prog) (A := (some ad377)) (c := c0) Try.underlying27 Try.underlying5 Try.underlying9 (Kd.C_below HR395.out HB.out)); rw [show (l0.take ((ji17) : Int).toNat).length = (ji17).toNat from (by rw [List.length_take]; have h_ : ((ji17) : Int) ≤ (l0.length : Int) := of_decide_eq_true (by first | (with_reducible assumption) | assumption); omega)] at h_; exact h_)⟩ (fun hHeld => ?_); refine with_tabW waggonerref16_Read_p.tab8 waggonerref16_Read_p.bits8 (fun HT_ HW_ => ?_)
            generalize w60.drew = w61 at HO386 HO393 BK376 BK390 HB HR395 hHeld ⊢
            refine pure_ (i := 0) (N := some 43) (v := ?_) (a' := ?_) #[true, false, false, false, false, false, false, false, false, false, false, false] rfl rfl (any_of HT_.out (by kernel_rfl)) (fun _ _ _ h => h) (Or.inl ⟨by rfl, ?_⟩) ?_ ?_
            rotate_left
            ·intro w'
             go_simp
             with_reducible rfl
            rotate_left
            ·simp only [Act.put, Kx.sb, Kx.sz, Kx.ss, i64_w, i32_w]
             rfl
            refine pure_ (i := 1) (N := some 44) (v := ?_) (a' := ?_) #[true, true, false, false, false, false, false, false, false, false, false, false] rfl rfl (any_of HT_.out (by kernel_rfl)) (fun _ _ _ h => h) (Or.inl ⟨by rfl, ?_⟩) ?_ ?_
            rotate_left
            ·intro w'
             go_simp
             with_reducible rfl
            rotate_left
            ·simp only [Act.put, Kx.sb, Kx.sz, Kx.ss, i64_w, i32_w]
             rfl
            refine pure_ (i := 2) (N := some 45) (v := ?_) (a' := ?_) #[true, true, true, false, false, false, false, false, false, false, false, false] rfl rfl (any_of HT_.out (by kernel_rfl)) (fun _ _ _ h => h) (Or.inl ⟨by rfl, ?_⟩) ?_ ?_
            rotate_left
            ·intro w'
             go_simp
             with_reducible rfl
            rotate_left
            ·simp only [Act.put, Kx.sb, Kx.sz, Kx.ss, i64_w, i32_w]
             rfl
            refine pure_ (i := 3) (N := some 46) (v := ?_) (a' := ?_) #[true, true, true, true, false, false, false, false, false, false, false, false] rfl rfl (any_of HT_.out (by kernel_rfl)) (fun _ _ _ h => h) (Or.inl ⟨by rfl, ?_⟩) ?_ ?_
            rotate_left
            ·intro w'
             go_simp
             with_reducible rfl
            rotate_left
            ·simp only [Act.put, Kx.sb, Kx.sz, Kx.ss, i64_w, i32_w]
             rfl
            refine pure_ (i := 5) (N := some 48) (v := ?_) (a' := ?_) #[true, true, true, true, false, true, false, false, false, false, false, false] rfl rfl (any_of HT_.out (by kernel_rfl)) (fun _ _ _ h => h) (Or.inl ⟨by rfl, ?_⟩) ?_ ?_
            rotate_left
            ·intro w'
             go_simp
             with_reducible rfl
            rotate_left
            ·simp only [Act.put, Kx.sb, Kx.sz, Kx.ss, i64_w, i32_w]
             rfl
            refine pure_ (i := 6) (N := some 49) (v := ?_) (a' := ?_) #[true, true, true, true, false, true, true, false, false, false, false, false] rfl rfl (any_of HT_.out (by kernel_rfl)) (fun _ _ _ h => h) (Or.inl ⟨by rfl, ?_⟩) ?_ ?_
            rotate_left
            ·intro w'
             go_simp
             with_reducible rfl
            rotate_left
            ·simp only [Act.put, Kx.sb, Kx.sz, Kx.ss, i64_w, i32_w]
             rfl
            refine pure_ (i := 7) (N := some 50) (v := ?_) (a' := ?_) #[true, true, true, true, false, true, true, true, false, false, false, false] rfl rfl (any_of HT_.out (by kernel_rfl)) (fun _ _ _ h => h) (Or.inl ⟨by rfl, ?_⟩) ?_ ?_
            rotate_left
            ·intro w'
             go_simp
             with_reducible rfl
            rotate_left
            ·simp only [Act.put, Kx.sb, Kx.sz, Kx.ss, i64_w, i32_w]
             rfl
            refine pure_ (i := 8) (N := some 51) (v := ?_) (a' := ?_) #[true, true, true, true, false, true, true, true, true, false, false, false] rfl rfl (any_of HT_.out (by kernel_rfl)) (fun _ _ _ h => h) (Or.inl ⟨by rfl, ?_⟩) ?_ ?_
            rotate_left
            ·intro w'
             go_simp
             with_reducible rfl
            rotate_left
            ·simp only [Act.put, Kx.sb, Kx.sz, Kx.ss, i64_w, i32_w]
             rfl
            refine take_ (i := 4) (N := some 47) (v := ?_) (a' := ?_) #[true, true, true, true, true, true, true, true, true, false, false, false] rfl rfl (take_ofW HT_.out HW_.out (by kernel_rfl)) (fun _ _ _ h => h) (Or.inl ⟨by rfl, ?_⟩) hHeld ?_ ?_
            rotate_left
            ·rintro w' ⟨s0, s1⟩
             go_simp
             with_reducible rfl
            rotate_left
            ·simp only [Act.put, Kx.sb, Kx.sz, Kx.ss, i64_w, i32_w]
             rfl
            refine take_ (i := 9) (N := some 52) (v := ?_) (a' := ?_) #[true, true, true, true, true, true, true, true, true, true, false, false] rfl rfl (take_ofW HT_.out HW_.out (by kernel_rfl)) (fun _ _ _ h => h) (Or.inl ⟨by rfl, ?_⟩) hHeld ?_ ?_
            rotate_left
            ·rintro w' ⟨s0, s1⟩
             go_simp
             with_reducible rfl
            rotate_left
            ·simp only [Act.put, Kx.sb, Kx.sz, Kx.ss, i64_w, i32_w]
             rfl
            refine pure_ (i := 10) (N := some 53) (v := ?_) (a' := ?_) #[true, true, true, true, true, true, true, true, true, true, true, false] rfl rfl (any_of HT_.out (by kernel_rfl)) (fun _ _ _ h => h) (Or.inl ⟨by rfl, ?_⟩) ?_ ?_
            rotate_left
            ·intro w'
             go_simp
             with_reducible rfl
            rotate_left
            ·simp only [Act.put, Kx.sb, Kx.sz, Kx.ss, i64_w, i32_w]
             rfl
            refine pure_ (i := 11) (N := some 54) (v := ?_) (a' := ?_) #[true, true, true, true, true, true, true, true, true, true, true, true] rfl rfl (any_of HT_.out (by kernel_rfl)) (fun _ _ _ h => h) (Or.inl ⟨by rfl, ?_⟩) ?_ ?_
            rotate_left
            ·intro w'
             go_simp
             with_reducible rfl
            rotate_left
            ·simp only [Act.put, Kx.sb, Kx.sz, Kx.ss, i64_w, i32_w]
             rfl
            refine done_ (done_of HT_.out (by kernel_rfl)) ?_
            have hcz63_0 : w61.cell? ⟨gb376, 0, none⟩ = some (.int .i64 0) := (blk_cell BK376.out 0).trans rfl
            have hcz63_1 : w61.cell? ⟨gb376, 1, none⟩ = some (.int .i64 0) := (blk_cell BK376.out 1).trans rfl
            have hcz63_2 : w61.cell? ⟨gb376, 2, none⟩ = some (.int .i64 0) := (blk_cell BK376.out 2).trans rfl
            have hcz63_3 : w61.cell? ⟨gb376, 3, none⟩ = some (.slice none 0 0) := (blk_cell BK376.out 3).trans rfl
            have hcz63_4 : w61.cell? ⟨gb376, 4, none⟩ = some (.int .i64 0) := (blk_cell BK376.out 4).trans rfl
            have hcz63_5 : w61.cell? ⟨gb376, 5, none⟩ = some (.int .i64 0) := (blk_cell BK376.out 5).trans rfl
            have hcz63_6 : w61.cell? ⟨gb376, 6, none⟩ = some (.int .i64 0) := (blk_cell BK376.out 6).trans rfl
            have hfz63_0 := blk_frozen BK376.out 0
            have hfz63_1 := blk_frozen BK376.out 1
            have hfz63_2 := blk_frozen BK376.out 2
            have hfz63_3 := blk_frozen BK376.out 3
            have hfz63_4 := blk_frozen BK376.out 4
            have hfz63_5 := blk_frozen BK376.out 5
            have hfz63_6 := blk_frozen BK376.out 6
            try go_wp2
            refine bodyPost_ret (results_ctt rfl _ _ gb376 38 #[.int .i64 0, .int .i64 0, .int .i64 0, .slice none 0 0, .int .i64 0, .int .i64 0, .int .i64 0] (0, 0) _ rfl (by (with_reducible repeat (first | refine blk_drewN ?_ _ | refine blk_drew ?_ | refine blk_alloc ?_ _)); refine blk_put (cs := #[.int .i64 0, .int .i64 0, .int .i64 0, .slice none 0 0, .int .i64 0, .int .i64 0, .int .i64 0]) ?_ 6 _ rfl; (with_reducible repeat (first | refine blk_drewN ?_ _ | refine blk_drew ?_ | refine blk_alloc ?_ _)); refine blk_put (cs := #[.int .i64 0, .int .i64 0, .int .i64 0, .slice none 0 0, .int .i64 0, .int .i64 0, .int .i64 0]) ?_ 5 _ rfl; (with_reducible repeat (first | refine blk_drewN ?_ _ | refine blk_drew ?_ | refine blk_alloc ?_ _)); refine blk_put (cs := #[.int .i64 0, .int .i64 0, .int .i64 0, .slice none 0 0, .int .i64 0, .int .i64 0, .int .i64 0]) ?_ 4 _ rfl; (with_reducible repeat (first | refine blk_drewN ?_ _ | refine blk_drew ?_ | refine blk_alloc ?_ _)); refine blk_put (cs := #[.int .i64 0, .int .i64 0, .int .i64 0, .slice none 0 0, .int .i64 0, .int .i64 0, .int .i64 0]) ?_ 3 _ rfl; (with_reducible repeat (first | refine blk_drewN ?_ _ | refine blk_drew ?_ | refine blk_alloc ?_ _)); refine blk_put (cs := #[.int .i64 0, .int .i64 0, .int .i64 0, .slice none 0 0, .int .i64 0, .int .i64 0, .int .i64 0]) ?_ 2 _ rfl; (with_reducible repeat (first | refine blk_drewN ?_ _ | refine blk_drew ?_ | refine blk_alloc ?_ _)); refine blk_put (cs := #[.int .i64 0, .int .i64 0, .int .i64 0, .slice none 0 0, .int .i64 0, .int .i64 0, .int .i64 0]) ?_ 1 _ rfl; (with_reducible repeat (first | refine blk_drewN ?_ _ | refine blk_drew ?_ | refine blk_alloc ?_ _)); refine blk_put (cs := #[.int .i64 0, .int .i64 0, .int .i64 0, .slice none 0 0, .int .i64 0, .int .i64 0, .int .i64 0]) ?_ 0 _ rfl; (with_reducible repeat (first | refine blk_drewN ?_ _ | refine blk_drew ?_ | refine blk_alloc ?_ _)); exact BK376.out) Try.underlying38 rfl (by kernel_rfl)) rfl ?_
            exact ⟨_, by first | rfl | (simp [errW_none, errW_some] <;> rfl) | (simp only [← hji17]; first | rfl | (simp [errW_none, errW_some] <;> rfl)) | (simp [*, errW_none, errW_some] <;> rfl), by first | exact Kd.R_nil _ _ _ _ _ | exact Kd.N_nil _ _ _ _ _ | exact Kd.V_nil _ _ _ _ _ | exact Kd.Q_nil _ _ _ _ _ | exact Kd.S_nil _ _ _ _ _, by repeat (first | (with_reducible first | exact HB.out | apply below_alloc | apply pw_below_drewN | apply below_drew1 | refine below_set ?_ GE376.out | refine below_set ?_ GE390.out) | exact HB.out)⟩
          ·rw [if_neg c19] at H
           exact absurd H (by simp)
         ·rw [if_neg c18] at H
          exact absurd H (by simp)
        ·rw [if_neg c16] at H
         have c16b0 : (t394 == 0) = false := beq_eq_false_iff_ne.mpr c16
         have c16b1 : (t394 != 0) = true := bne_iff_ne.mpr c16
         simp only [Option.some.injEq, Prod.mk.injEq] at H
         obtain ⟨rfl, rfl, rfl, rfl, rfl, rfl, rfl, rfl, rfl⟩ := H
         go_enter Try.func22, Try.ntmps22
         try go_wp2_with (first | ((with_reducible refine gate_dst (N := 2) rfl ?_); refine box_event ?hg (N := 2) ?hd (cs := #[.int .i64 0, .int .i64 0, .int .i64 0, .slice none 0 0, .int .i64 0, .int .i64 0, .int .i64 0]) (t := 38) ?hr ?_; (case hd => rfl); (case hg => rfl); (case hr => first | (go_simp; done) | (go_simp; rfl)); intro gb376 hg w64 hbox hb; have n0_ := Aside0.mk (below_step (by repeat (first | (with_reducible first | exact HB.out | apply below_alloc | apply pw_below_drewN | apply below_drew1) | exact HB.out)) hb); have n1_ := Aside0.mk (hbox); have n2_ := Aside0.mk ((by rw [hg]; exact (below_size (by repeat (first | (with_reducible first | exact HB.out | apply below_alloc | apply pw_below_drewN | apply below_drew1) | exact HB.out))) : w.heap.size ≤ gb376)); have n3_ := Aside0.mk ((by rw [hg]; exact (below_size (by repeat (first | (with_reducible first | exact HB.out | apply below_alloc | apply pw_below_drewN | apply below_drew1) | exact HB.out))) : w.heap.size ≤ gb376)); clear HB; have HB := n0_; have BK376 := n1_; have GW376 := n2_; have GE376 := n3_; clear n0_ n1_ n2_ n3_; clear hb hbox hg))
         have n0_ := Aside0.mk (blk_drew BK376.out)
         have n1_ := Aside0.mk (below_drew1 HB.out)
         clear BK376
         clear HB
         have BK376 := n0_
         have HB := n1_
         clear n0_ n1_
         have p377 : 0 ≤ (1 : Int) := (by omega)
         have q377 : 1 < (l0.length : Int) := of_decide_eq_true (by first | (with_reducible assumption) | assumption)
         obtain ⟨ad377, e377, hx377_0⟩ := Kd.at_int HR0.out 1 p377 q377
         have hw377_0 := hx377_0
         (try rw [show ((1 : Int)).toNat = 1 from rfl] at hw377_0)
         (try rw [show 1 * 1 = 1 from rfl] at hw377_0)
         (try simp only [Nat.reduceMul, Nat.reduceEqDiff, Go.Addr.add, ↓reduceIte] at hw377_0)
         cases e377
         (try simp only [show (1 : Int).toNat = 1 from rfl, Nat.reduceMul, Nat.reduceEqDiff, Go.Addr.add, ↓reduceIte] at hx377_0)
         have qi377 : (1 < l0.length) = True := eq_true (by omega)
         (try rw [show ((1 : Int)).toNat = 1 from rfl] at hx377_0)
         replace hx377_0 := (HB.out.cell (World.block_lt_of_cell? w _ hx377_0)).trans hx377_0
         replace p377 := eq_true p377
         replace q377 := eq_true q377
         have p378 : 0 ≤ (2 : Int) := (by omega)
         have q378 : 2 < (l0.length : Int) := of_decide_eq_true (by first | (with_reducible assumption) | assumption)
         obtain ⟨ad378, e378, hx378_0⟩ := Kd.at_int HR0.out 2 p378 q378
         have hw378_0 := hx378_0
         (try rw [show ((2 : Int)).toNat = 2 from rfl] at hw378_0)
         (try rw [show 2 * 1 = 2 from rfl] at hw378_0)
         (try simp only [Nat.reduceMul, Nat.reduceEqDiff, Go.Addr.add, ↓reduceIte] at hw378_0)
         obtain rfl : ad377 = ad378 := (by injection e378)
         (try simp only [show (2 : Int).toNat = 2 from rfl, Nat.reduceMul, Nat.reduceEqDiff, Go.Addr.add, ↓reduceIte] at hx378_0)
         have qi378 : (2 < l0.length) = True := eq_true (by omega)
         (try rw [show ((2 : Int)).toNat = 2 from rfl] at hx378_0)
         replace hx378_0 := (HB.out.cell (World.block_lt_of_cell? w _ hx378_0)).trans hx378_0
         replace p378 := eq_true p378
         replace q378 := eq_true q378
         refine start_ (n := 11) (S := fun w' => w'.cell? ⟨ad377.block, ad377.off + 1, none⟩ = some (.int .u8 (rd l0 1)) ∧ w'.cell? ⟨ad377.block, ad377.off + 2, none⟩ = some (.int .u8 (rd l0 2))) (ds := []) #[false, false, false, false, false, false, false, false, false, false, false] (by kernel_rfl) rfl rfl ⟨((HB.out.cell (World.block_lt_of_cell? w _ hw377_0)).trans hw377_0), ((HB.out.cell (World.block_lt_of_cell? w _ hw378_0)).trans hw378_0)⟩ (fun hHeld => ?_); refine with_tabW waggonerref16_Read_p.tab3 waggonerref16_Read_p.bits3 (fun HT_ HW_ => ?_)
         generalize w64.drew = w65 at BK376 HB hx377_0 hx378_0 hHeld ⊢
         refine pure_ (i := 0) (N := some 13) (v := ?_) (a' := ?_) #[true, false, false, false, false, false, false, false, false, false, false] rfl rfl (any_of HT_.out (by kernel_rfl)) (fun _ _ _ h => h) (Or.inl ⟨by rfl, ?_⟩) ?_ ?_
         rotate_left
         ·intro w'
          go_simp
          with_reducible rfl
         rotate_left
         ·simp only [Act.put, Kx.sb, Kx.sz, Kx.ss, i64_w, i32_w]
          rfl
         refine pure_ (i := 1) (N := some 14) (v := ?_) (a' := ?_) #[true, true, false, false, false, false, false, false, false, false, false] rfl rfl (any_of HT_.out (by kernel_rfl)) (fun _ _ _ h => h) (Or.inl ⟨by rfl, ?_⟩) ?_ ?_
         rotate_left
         ·intro w'
          go_simp
          with_reducible rfl
         rotate_left
         ·simp only [Act.put, Kx.sb, Kx.sz, Kx.ss, i64_w, i32_w]
          rfl
         refine pure_ (i := 4) (N := some 17) (v := ?_) (a' := ?_) #[true, true, false, false, true, false, false, false, false, false, false] rfl rfl (any_of HT_.out (by kernel_rfl)) (fun _ _ _ h => h) (Or.inl ⟨by rfl, ?_⟩) ?_ ?_
         rotate_left
         ·intro w'
          go_simp
          with_reducible rfl
         rotate_left
         ·simp only [Act.put, Kx.sb, Kx.sz, Kx.ss, i64_w, i32_w]
          rfl
         refine pure_ (i := 5) (N := some 18) (v := ?_) (a' := ?_) #[true, true, false, false, true, true, false, false, false, false, false] rfl rfl (any_of HT_.out (by kernel_rfl)) (fun _ _ _ h => h) (Or.inl ⟨by rfl, ?_⟩) ?_ ?_
         rotate_left
         ·intro w'
          go_simp
          with_reducible rfl
         rotate_left
         ·simp only [Act.put, Kx.sb, Kx.sz, Kx.ss, i64_w, i32_w]
          rfl
         refine take_ (i := 2) (N := some 15) (v := ?_) (a' := ?_) #[true, true, true, false, true, true, false, false, false, false, false] rfl rfl (take_ofW HT_.out HW_.out (by kernel_rfl)) (fun _ _ _ h => h) (Or.inl ⟨by rfl, ?_⟩) hHeld ?_ ?_
         rotate_left
         ·rintro w' ⟨s0, s1⟩
          go_simp
          with_reducible rfl
         rotate_left
         ·simp only [Act.put, Kx.sb, Kx.sz, Kx.ss, i64_w, i32_w]
          rfl
         refine pure_ (i := 3) (N := some 16) (v := ?_) (a' := ?_) #[true, true, true, true, true, true, false, false, false, false, false] rfl rfl (any_of HT_.out (by kernel_rfl)) (fun _ _ _ h => h) (Or.inl ⟨by rfl, ?_⟩) ?_ ?_
         rotate_left
         ·intro w'
          go_simp
          with_reducible rfl
         rotate_left
         ·simp only [Act.put, Kx.sb, Kx.sz, Kx.ss, i64_w, i32_w]
          rfl
         refine take_ (i := 6) (N := some 19) (v := ?_) (a' := ?_) #[true, true, true, true, true, true, true, false, false, false, false] rfl rfl (take_ofW HT_.out HW_.out (by kernel_rfl)) (fun _ _ _ h => h) (Or.inl ⟨by rfl, ?_⟩) hHeld ?_ ?_
         rotate_left
         ·rintro w' ⟨s0, s1⟩
          go_simp
          with_reducible rfl
         rotate_left
         ·simp only [Act.put, Kx.sb, Kx.sz, Kx.ss, i64_w, i32_w]
          rfl
         refine pure_ (i := 7) (N := some 20) (v := ?_) (a' := ?_) #[true, true, true, true, true, true, true, true, false, false, false] rfl rfl (any_of HT_.out (by kernel_rfl)) (fun _ _ _ h => h) (Or.inl ⟨by rfl, ?_⟩) ?_ ?_
         rotate_left
         ·intro w'
          go_simp
          with_reducible rfl
         rotate_left
         ·simp only [Act.put, Kx.sb, Kx.sz, Kx.ss, i64_w, i32_w]
          rfl
         refine pure_ (i := 8) (N := some 21) (v := ?_) (a' := ?_) #[true, true, true, true, true, true, true, true, true, false, false] rfl rfl (any_of HT_.out (by kernel_rfl)) (fun _ _ _ h => h) (Or.inl ⟨by rfl, ?_⟩) ?_ ?_
         rotate_left
         ·intro w'
          go_simp
          with_reducible rfl
         rotate_left
         ·simp only [Act.put, Kx.sb, Kx.sz, Kx.ss, i64_w, i32_w]
          rfl
         refine pure_ (i := 9) (N := some 22) (v := ?_) (a' := ?_) #[true, true, true, true, true, true, true, true, true, true, false] rfl rfl (any_of HT_.out (by kernel_rfl)) (fun _ _ _ h => h) (Or.inl ⟨by rfl, ?_⟩) ?_ ?_
         rotate_left
         ·intro w'
          go_simp
          with_reducible rfl
         rotate_left
         ·simp only [Act.put, Kx.sb, Kx.sz, Kx.ss, i64_w, i32_w]
          rfl
         refine pure_ (i := 10) (N := some 5) (v := ?_) (a' := ?_) #[true, true, true, true, true, true, true, true, true, true, true] rfl rfl (any_of HT_.out (by kernel_rfl)) (fun _ _ _ h => h) (Or.inl ⟨by rfl, ?_⟩) ?_ ?_
         rotate_left
         ·intro w'
          go_simp
          with_reducible rfl
         rotate_left
         ·simp only [Act.put, Kx.sb, Kx.sz, Kx.ss, i64_w, i32_w]
          rfl
         refine done_ (done_of HT_.out (by kernel_rfl)) ?_
         try go_wp2
         have n0_ := Aside0.mk (blk_drew BK376.out)
         have n1_ := Aside0.mk (below_drew1 HB.out)
         clear BK376
         clear HB
         have BK376 := n0_
         have HB := n1_
         clear n0_ n1_
         have p379 : 0 ≤ (0 : Int) := (by omega)
         have q379 : 0 < (l0.length : Int) := of_decide_eq_true (by first | (with_reducible assumption) | assumption)
         obtain ⟨ad379, e379, hx379_0⟩ := Kd.at_int HR0.out 0 p379 q379
         have hw379_0 := hx379_0
         (try rw [show ((0 : Int)).toNat = 0 from rfl] at hw379_0)
         (try rw [show 0 * 1 = 0 from rfl] at hw379_0)
         (try rw [Addr.add_zero'] at hw379_0)
         obtain rfl : ad377 = ad379 := (by injection e379)
         have qi379 : (0 < l0.length) = True := eq_true (by omega)
         (try rw [show ((0 : Int)).toNat = 0 from rfl] at hx379_0)
         (try rw [Addr.add_zero'] at hx379_0)
         replace hx379_0 := (HB.out.cell (World.block_lt_of_cell? w _ hx379_0)).trans hx379_0
         replace p379 := eq_true p379
         replace q379 := eq_true q379
         obtain ⟨i067, hi067, _, hsz67, _⟩ := info_parts info5
         obtain ⟨A67, hcut67, hA67, hC67⟩ := print_mid_of (P := Try.prog) (Value.int .u8) 0 27 5 .i64 .i64 Try.underlying27 hi067 hsz67 (some ad377) c0 l0 3 (wrap64 (3 + (wrap64 ((wrap64 (rd l0 1)) + (wrap64 (256 * (wrap64 (rd l0 2)))))))) (by omega) (by first | omega | exact of_decide_eq_true (by first | (with_reducible assumption) | assumption)) (of_decide_eq_true (by first | (with_reducible assumption) | assumption)) HC0.out
         have HR380 := Aside0.mk (Kd.C_of_reads (h1 := fun _ => rfl) (hA67 _ (Kd.reads_of_C HR0.out)))
         have HC380 := Aside0.mk hC67
         clear hA67 hC67 hi067 hsz67
         refine start_ (n := 11) (S := fun w' => w'.cell? ad377 = some (.int .u8 (rd l0 0))) (ds := [10]) #[false, false, false, false, false, false, false, false, false, false, false] (by kernel_rfl) rfl rfl (((HB.out.cell (World.block_lt_of_cell? w _ hw379_0)).trans hw379_0)) (fun hHeld => ?_); refine with_tabW waggonerref16_Read_p.tab6 waggonerref16_Read_p.bits6 (fun HT_ HW_ => ?_)
         generalize w65.drew = w66 at BK376 HB HR380 hx379_0 hHeld ⊢
         refine pure_ (i := 0) (N := some 29) (v := ?_) (a' := ?_) #[true, false, false, false, false, false, false, false, false, false, false] rfl rfl (any_of HT_.out (by kernel_rfl)) (fun _ _ _ h => h) (Or.inl ⟨by rfl, ?_⟩) ?_ ?_
         rotate_left
         ·intro w'
          go_simp
          with_reducible rfl
         rotate_left
         ·simp only [Act.put, Kx.sb, Kx.sz, Kx.ss, i64_w, i32_w]
          rfl
         refine pure_ (i := 1) (N := some 30) (v := ?_) (a' := ?_) #[true, true, false, false, false, false, false, false, false, false, false] rfl rfl (any_of HT_.out (by kernel_rfl)) (fun _ _ _ h => h) (Or.inl ⟨by rfl, ?_⟩) ?_ ?_
         rotate_left
         ·intro w'
          go_simp
          with_reducible rfl
         rotate_left
         ·simp only [Act.put, Kx.sb, Kx.sz, Kx.ss, i64_w, i32_w]
          rfl
         refine pure_ (i := 4) (N := some 33) (v := ?_) (a' := ?_) #[true, true, false, false, true, false, false, false, false, false, false] rfl rfl (any_of HT_.out (by kernel_rfl)) (fun _ _ _ h => h) (Or.inl ⟨by rfl, ?_⟩) ?_ ?_
         rotate_left
         ·intro w'
          go_simp
          with_reducible rfl
         rotate_left
         ·simp only [Act.put, Kx.sb, Kx.sz, Kx.ss, i64_w, i32_w]
          rfl
         refine pure_ (i := 5) (N := some 34) (v := ?_) (a' := ?_) #[true, true, false, false, true, true, false, false, false, false, false] rfl rfl (any_of HT_.out (by kernel_rfl)) (fun _ _ _ h => h) (Or.inl ⟨by rfl, ?_⟩) ?_ ?_
         rotate_left
         ·intro w'
          go_simp
          with_reducible rfl
         rotate_left
         ·simp only [Act.put, Kx.sb, Kx.sz, Kx.ss, i64_w, i32_w]
          rfl
         refine pure_ (i := 6) (N := some 35) (v := ?_) (a' := ?_) #[true, true, false, false, true, true, true, false, false, false, false] rfl rfl (any_of HT_.out (by kernel_rfl)) (fun _ _ _ h => h) (Or.inl ⟨by rfl, ?_⟩) ?_ ?_
         rotate_left
         ·intro w'
          go_simp
          with_reducible rfl
         rotate_left
         ·simp only [Act.put, Kx.sb, Kx.sz, Kx.ss, i64_w, i32_w]
          rfl
         refine pure_ (i := 7) (N := some 36) (v := ?_) (a' := ?_) #[true, true, false, false, true, true, true, true, false, false, false] rfl rfl (any_of HT_.out (by kernel_rfl)) (fun _ _ _ h => h) (Or.inl ⟨by rfl, ?_⟩) ?_ ?_
         rotate_left
         ·intro w'
          go_simp
          with_reducible rfl
         rotate_left
         ·simp only [Act.put, Kx.sb, Kx.sz, Kx.ss, i64_w, i32_w]
          rfl
         refine take_ (i := 2) (N := some 31) (v := ?_) (a' := ?_) #[true, true, true, false, true, true, true, true, false, false, false] rfl rfl (take_ofW HT_.out HW_.out (by kernel_rfl)) (fun _ _ _ h => h) (Or.inl ⟨by rfl, ?_⟩) hHeld ?_ ?_
         rotate_left
         ·intro w' s0
          go_simp
          with_reducible rfl
         rotate_left
         ·simp only [Act.put, Kx.sb, Kx.sz, Kx.ss, i64_w, i32_w]
          rfl
         refine pure_ (i := 3) (N := some 32) (v := ?_) (a' := ?_) #[true, true, true, true, true, true, true, true, false, false, false] rfl rfl (any_of HT_.out (by kernel_rfl)) (fun _ _ _ h => h) (Or.inl ⟨by rfl, ?_⟩) ?_ ?_
         rotate_left
         ·intro w'
          go_simp
          with_reducible rfl
         rotate_left
         ·simp only [Act.put, Kx.sb, Kx.sz, Kx.ss, i64_w, i32_w]
          rfl
         refine join_ (σ := Value × Nat) 1 #[true, true, true, true, true, true, true, true, true, true, false] (fun s_ => [(37, .agg #[.int .i64 t381, .int .i64 t382, .int .i64 t383, s_.1, .int .i64 t387, .int .i64 t388, .int .i64 t389]), (6, .pointer (some ⟨s_.2, 0, none⟩))]) (fun s_ w' => (w'.cell? ad377 = some (.int .u8 (rd l0 0))) ∧ (Kd.R (Kd.int .u8) 5 w' w.heap.size (fun _ => True) s_.1 t384) ∧ (w'.heap[gb376]? = some (.cells #[.int .i64 0, .int .i64 0, .int .i64 0, .slice none 0 0, .int .i64 0, .int .i64 0, .int .i64 0] 38 (0, 0))) ∧ (w'.heap[s_.2]? = some (.cells #[.int .i64 0, .int .i64 0, .int .i64 0, .slice none 0 0, .int .i64 0, .int .i64 0, .int .i64 0] 38 (0, 0))) ∧ (w.heap.size ≤ s_.2) ∧ (w.heap.size ≤ s_.2) ∧ (gb376 ≠ s_.2) ∧ (s_.2 ≠ gb376) ∧ (Below w.heap.size w w')) ?_ ?_
         rotate_left
         ·intro hCont
          refine two_ (i := 8) (j := 9) (Ni := some 37) (Nj := some 6) #[true, true, true, true, true, true, true, true, true, false, false] #[true, true, true, true, true, true, true, true, false, true, false] rfl rfl rfl rfl (two_of HT_.out (by kernel_rfl)) (by decide) (by decide) (fun K hK => ?_) (fun K hK => ?_)
          ·skip
           refine goes_ Try.func48 (by kernel_rfl) rfl #[.int .i64 (wrap64 (rd l0 0)), .slice A67 ((l0.take ((wrap64 (3 + (wrap64 ((wrap64 (rd l0 1)) + (wrap64 (256 * (wrap64 (rd l0 2)))))))) : Int).toNat).drop 3).length (c0 - 3)] (by rfl) rfl rfl (by (try simp only [List.map_toArray, List.map_cons, List.map_nil]); first | done | (rw [show ((l0.take ((wrap64 (3 + (wrap64 ((wrap64 (rd l0 1)) + (wrap64 (256 * (wrap64 (rd l0 2)))))))) : Int).toNat).drop 3).length = ((wrap64 (3 + (wrap64 ((wrap64 (rd l0 1)) + (wrap64 (256 * (wrap64 (rd l0 2)))))))).toNat - 3) from (by rw [List.length_drop, List.length_take]; have h_ : ((wrap64 (3 + (wrap64 ((wrap64 (rd l0 1)) + (wrap64 (256 * (wrap64 (rd l0 2)))))))) : Int) ≤ (l0.length : Int) := of_decide_eq_true (by first | (with_reducible assumption) | assumption); omega)] <;> rfl) | rfl | (simp only [List.length_drop, List.length_take]; rfl)) ?_
           with_reducible refine (waggonerref16_may.calls (wrap64 (rd l0 0)) _ _ ((l0.take ((wrap64 (3 + (wrap64 ((wrap64 (rd l0 1)) + (wrap64 (256 * (wrap64 (rd l0 2)))))))) : Int).toNat).drop 3) t381 t382 t383 t384 t387 t388 t389 _ ?side1 ?side2 A14.out).mono ?_
           (case side1 => repeat (first | exact (Kd.C_below HR380.out HB.out) | (with_reducible refine Kd.C_alloc ?_ _) | (with_reducible refine Kd.C_drewN ?_ _) | (with_reducible refine Kd.C_drew ?_)))
           (case side2 => exact HC380.out)
           rintro e w68 ⟨v385, rfl, ho0, hb⟩
           refine ⟨_, rfl, ?_⟩
           have n0_ := Aside0.mk (Kd.R_lower ho0 (below_size (by repeat (first | (with_reducible first | exact HB.out | apply below_alloc | apply pw_below_drewN | apply below_drew1 | refine below_set ?_ GE376.out) | exact HB.out))))
           have n1_ := Aside0.mk (blk_below (g := gb376) (o := .cells #[.int .i64 0, .int .i64 0, .int .i64 0, .slice none 0 0, .int .i64 0, .int .i64 0, .int .i64 0] 38 (0, 0)) (by (with_reducible repeat (first | refine blk_drewN ?_ _ | refine blk_drew ?_ | refine blk_alloc ?_ _)); exact BK376.out) hb)
           have n2_ := Aside0.mk (below_step (by repeat (first | (with_reducible first | exact HB.out | apply below_alloc | apply pw_below_drewN | apply below_drew1 | refine below_set ?_ GE376.out) | exact HB.out)) hb)
           clear BK376
           clear HB
           have HO386 := n0_
           have BK376 := n1_
           have HB := n2_
           clear n0_ n1_ n2_
           (try clear hb)
           (try clear hb2)
           (try clear hk)
           (try clear hi)
           (try clear ho0)
           refine hK.out _ _ (((HB.out.cell (World.block_lt_of_cell? w _ hw379_0)).trans hw379_0)) (fun hHeld => ?_)
           clear hK K
           refine norm_ (a' := ?_) ?_ ?_
           rotate_left
           ·show Act.put _ (some 37) _ = _
            simp only [Act.put, Kx.sb, Kx.sz, Kx.ss, i64_w, i32_w]
            rfl
           refine one_ (i := 9) (N := some 6) #[true, true, true, true, true, true, true, true, true, true, false] rfl rfl (one_of HT_.out (by kernel_rfl)) (by decide) (fun K hK => ?_)
           refine box_step ?hg (N := 6) ?hd (cs := #[.int .i64 0, .int .i64 0, .int .i64 0, .slice none 0 0, .int .i64 0, .int .i64 0, .int .i64 0]) (t := 38) ?hr ?_; (case hd => rfl); (case hg => rfl); (case hr => first | (go_simp; done) | (go_simp; rfl))
           intro gb390 hg w69 hbox hb
           have n0_ := Aside0.mk (Kd.R_below (by (with_reducible repeat (first | apply Kd.R_alloc | apply Kd.R_drewN | apply Kd.R_drew)); exact HO386.out) hb)
           have n1_ := Aside0.mk (blk_below (g := gb376) (o := .cells #[.int .i64 0, .int .i64 0, .int .i64 0, .slice none 0 0, .int .i64 0, .int .i64 0, .int .i64 0] 38 (0, 0)) (by (with_reducible repeat (first | refine blk_drewN ?_ _ | refine blk_drew ?_ | refine blk_alloc ?_ _)); exact BK376.out) hb)
           have n2_ := Aside0.mk (below_step (by repeat (first | (with_reducible first | exact HB.out | apply below_alloc | apply pw_below_drewN | apply below_drew1 | refine below_set ?_ GE376.out) | exact HB.out)) hb)
           have n3_ := Aside0.mk (hbox)
           have n4_ := Aside0.mk ((by rw [hg]; exact (below_size (by repeat (first | (with_reducible first | exact HB.out | apply below_alloc | apply pw_below_drewN | apply below_drew1 | refine below_set ?_ GE376.out) | exact HB.out))) : w.heap.size ≤ gb390))
           have n5_ := Aside0.mk ((by rw [hg]; exact (below_size (by repeat (first | (with_reducible first | exact HB.out | apply below_alloc | apply pw_below_drewN | apply below_drew1 | refine below_set ?_ GE376.out) | exact HB.out))) : w.heap.size ≤ gb390))
           have n6_ := Aside0.mk ((by rw [hg]; exact Nat.ne_of_lt (blk_lt (g := gb376) (o := .cells #[.int .i64 0, .int .i64 0, .int .i64 0, .slice none 0 0, .int .i64 0, .int .i64 0, .int .i64 0] 38 (0, 0)) (by (with_reducible repeat (first | refine blk_drewN ?_ _ | refine blk_drew ?_ | refine blk_alloc ?_ _)); exact BK376.out)) : gb376 ≠ gb390))
           have n7_ := Aside0.mk ((by rw [hg]; exact Nat.ne_of_gt (blk_lt (g := gb376) (o := .cells #[.int .i64 0, .int .i64 0, .int .i64 0, .slice none 0 0, .int .i64 0, .int .i64 0, .int .i64 0] 38 (0, 0)) (by (with_reducible repeat (first | refine blk_drewN ?_ _ | refine blk_drew ?_ | refine blk_alloc ?_ _)); exact BK376.out)) : gb390 ≠ gb376))
           clear HO386
           clear BK376
           clear HB
           have HO386 := n0_
           have BK376 := n1_
           have HB := n2_
           have BK390 := n3_
           have GW390 := n4_
           have GE390 := n5_
           have NB376_390 := n6_
           have NB390_376 := n7_
           clear n0_ n1_ n2_ n3_ n4_ n5_ n6_ n7_
           clear hb hbox hg
           refine hK.out _ _ (((HB.out.cell (World.block_lt_of_cell? w _ hw379_0)).trans hw379_0)) (fun hHeld => ?_)
           clear hK K
           refine norm_ (a' := ?_) ?_ ?_
           rotate_left
           ·show Act.put _ (some 6) _ = _
            simp only [Act.put, Kx.sb, Kx.sz, Kx.ss, i64_w, i32_w]
            rfl
           exact norm_ (by simp only [putAll, Act.put, Kx.sb, Kx.sz, Kx.ss]) (hCont (v385, gb390) _ ⟨hHeld, (by (with_reducible repeat (first | apply Kd.R_alloc | apply Kd.R_drewN | apply Kd.R_drew)); exact HO386.out), (by (with_reducible repeat (first | refine blk_drewN ?_ _ | refine blk_drew ?_ | refine blk_alloc ?_ _)); exact BK376.out), (by (with_reducible repeat (first | refine blk_drewN ?_ _ | refine blk_drew ?_ | refine blk_alloc ?_ _)); exact BK390.out), GW390.out, GE390.out, NB376_390.out, NB390_376.out, (by repeat (first | (with_reducible first | exact HB.out | apply below_alloc | apply pw_below_drewN | apply below_drew1 | refine below_set ?_ GE376.out | refine below_set ?_ GE390.out) | exact HB.out))⟩)
          ·skip
           refine box_step ?hg (N := 6) ?hd (cs := #[.int .i64 0, .int .i64 0, .int .i64 0, .slice none 0 0, .int .i64 0, .int .i64 0, .int .i64 0]) (t := 38) ?hr ?_; (case hd => rfl); (case hg => rfl); (case hr => first | (go_simp; done) | (go_simp; rfl))
           intro gb390 hg w68 hbox hb
           have n0_ := Aside0.mk (blk_below (g := gb376) (o := .cells #[.int .i64 0, .int .i64 0, .int .i64 0, .slice none 0 0, .int .i64 0, .int .i64 0, .int .i64 0] 38 (0, 0)) (by (with_reducible repeat (first | refine blk_drewN ?_ _ | refine blk_drew ?_ | refine blk_alloc ?_ _)); exact BK376.out) hb)
           have n1_ := Aside0.mk (below_step (by repeat (first | (with_reducible first | exact HB.out | apply below_alloc | apply pw_below_drewN | apply below_drew1 | refine below_set ?_ GE376.out) | exact HB.out)) hb)
           have n2_ := Aside0.mk (hbox)
           have n3_ := Aside0.mk ((by rw [hg]; exact (below_size (by repeat (first | (with_reducible first | exact HB.out | apply below_alloc | apply pw_below_drewN | apply below_drew1 | refine below_set ?_ GE376.out) | exact HB.out))) : w.heap.size ≤ gb390))
           have n4_ := Aside0.mk ((by rw [hg]; exact (below_size (by repeat (first | (with_reducible first | exact HB.out | apply below_alloc | apply pw_below_drewN | apply below_drew1 | refine below_set ?_ GE376.out) | exact HB.out))) : w.heap.size ≤ gb390))
           have n5_ := Aside0.mk ((by rw [hg]; exact Nat.ne_of_lt (blk_lt (g := gb376) (o := .cells #[.int .i64 0, .int .i64 0, .int .i64 0, .slice none 0 0, .int .i64 0, .int .i64 0, .int .i64 0] 38 (0, 0)) (by (with_reducible repeat (first | refine blk_drewN ?_ _ | refine blk_drew ?_ | refine blk_alloc ?_ _)); exact BK376.out)) : gb376 ≠ gb390))
           have n6_ := Aside0.mk ((by rw [hg]; exact Nat.ne_of_gt (blk_lt (g := gb376) (o := .cells #[.int .i64 0, .int .i64 0, .int .i64 0, .slice none 0 0, .int .i64 0, .int .i64 0, .int .i64 0] 38 (0, 0)) (by (with_reducible repeat (first | refine blk_drewN ?_ _ | refine blk_drew ?_ | refine blk_alloc ?_ _)); exact BK376.out)) : gb390 ≠ gb376))
           clear BK376
           clear HB
           have BK376 := n0_
           have HB := n1_
           have BK390 := n2_
           have GW390 := n3_
           have GE390 := n4_
           have NB376_390 := n5_
           have NB390_376 := n6_
           clear n0_ n1_ n2_ n3_ n4_ n5_ n6_
           clear hb hbox hg
           refine hK.out _ _ (((HB.out.cell (World.block_lt_of_cell? w _ hw379_0)).trans hw379_0)) (fun hHeld => ?_)
           clear hK K
           refine norm_ (a' := ?_) ?_ ?_
           rotate_left
           ·show Act.put _ (some 6) _ = _
            simp only [Act.put, Kx.sb, Kx.sz, Kx.ss, i64_w, i32_w]
            rfl
           refine one_ (i := 8) (N := some 37) #[true, true, true, true, true, true, true, true, true, true, false] rfl rfl (one_of HT_.out (by kernel_rfl)) (by decide) (fun K hK => ?_)
           refine goes_ Try.func48 (by kernel_rfl) rfl #[.int .i64 (wrap64 (rd l0 0)), .slice A67 ((l0.take ((wrap64 (3 + (wrap64 ((wrap64 (rd l0 1)) + (wrap64 (256 * (wrap64 (rd l0 2)))))))) : Int).toNat).drop 3).length (c0 - 3)] (by rfl) rfl rfl (by (try simp only [List.map_toArray, List.map_cons, List.map_nil]); first | done | (rw [show ((l0.take ((wrap64 (3 + (wrap64 ((wrap64 (rd l0 1)) + (wrap64 (256 * (wrap64 (rd l0 2)))))))) : Int).toNat).drop 3).length = ((wrap64 (3 + (wrap64 ((wrap64 (rd l0 1)) + (wrap64 (256 * (wrap64 (rd l0 2)))))))).toNat - 3) from (by rw [List.length_drop, List.length_take]; have h_ : ((wrap64 (3 + (wrap64 ((wrap64 (rd l0 1)) + (wrap64 (256 * (wrap64 (rd l0 2)))))))) : Int) ≤ (l0.length : Int) := of_decide_eq_true (by first | (with_reducible assumption) | assumption); omega)] <;> rfl) | rfl | (simp only [List.length_drop, List.length_take]; rfl)) ?_
           with_reducible refine (waggonerref16_may.calls (wrap64 (rd l0 0)) _ _ ((l0.take ((wrap64 (3 + (wrap64 ((wrap64 (rd l0 1)) + (wrap64 (256 * (wrap64 (rd l0 2)))))))) : Int).toNat).drop 3) t381 t382 t383 t384 t387 t388 t389 _ ?side1 ?side2 A14.out).mono ?_
           (case side1 => repeat (first | exact (Kd.C_below HR380.out HB.out) | (with_reducible refine Kd.C_alloc ?_ _) | (with_reducible refine Kd.C_drewN ?_ _) | (with_reducible refine Kd.C_drew ?_)))
           (case side2 => exact HC380.out)
           rintro e w69 ⟨v385, rfl, ho0, hb⟩
           refine ⟨_, rfl, ?_⟩
           have n0_ := Aside0.mk (Kd.R_lower ho0 (below_size (by repeat (first | (with_reducible first | exact HB.out | apply below_alloc | apply pw_below_drewN | apply below_drew1 | refine below_set ?_ GE376.out | refine below_set ?_ GE390.out) | exact HB.out))))
           have n1_ := Aside0.mk (blk_below (g := gb376) (o := .cells #[.int .i64 0, .int .i64 0, .int .i64 0, .slice none 0 0, .int .i64 0, .int .i64 0, .int .i64 0] 38 (0, 0)) (by (with_reducible repeat (first | refine blk_drewN ?_ _ | refine blk_drew ?_ | refine blk_alloc ?_ _)); exact BK376.out) hb)
           have n2_ := Aside0.mk (blk_below (g := gb390) (o := .cells #[.int .i64 0, .int .i64 0, .int .i64 0, .slice none 0 0, .int .i64 0, .int .i64 0, .int .i64 0] 38 (0, 0)) (by (with_reducible repeat (first | refine blk_drewN ?_ _ | refine blk_drew ?_ | refine blk_alloc ?_ _)); exact BK390.out) hb)
           have n3_ := Aside0.mk (below_step (by repeat (first | (with_reducible first | exact HB.out | apply below_alloc | apply pw_below_drewN | apply below_drew1 | refine below_set ?_ GE376.out | refine below_set ?_ GE390.out) | exact HB.out)) hb)
           clear BK376
           clear BK390
           clear HB
           have HO386 := n0_
           have BK376 := n1_
           have BK390 := n2_
           have HB := n3_
           clear n0_ n1_ n2_ n3_
           (try clear hb)
           (try clear hb2)
           (try clear hk)
           (try clear hi)
           (try clear ho0)
           refine hK.out _ _ (((HB.out.cell (World.block_lt_of_cell? w _ hw379_0)).trans hw379_0)) (fun hHeld => ?_)
           clear hK K
           refine norm_ (a' := ?_) ?_ ?_
           rotate_left
           ·show Act.put _ (some 37) _ = _
            simp only [Act.put, Kx.sb, Kx.sz, Kx.ss, i64_w, i32_w]
            rfl
           exact norm_ (by simp only [putAll, Act.put, Kx.sb, Kx.sz, Kx.ss]) (hCont (v385, gb390) _ ⟨hHeld, (by (with_reducible repeat (first | apply Kd.R_alloc | apply Kd.R_drewN | apply Kd.R_drew)); exact HO386.out), (by (with_reducible repeat (first | refine blk_drewN ?_ _ | refine blk_drew ?_ | refine blk_alloc ?_ _)); exact BK376.out), (by (with_reducible repeat (first | refine blk_drewN ?_ _ | refine blk_drew ?_ | refine blk_alloc ?_ _)); exact BK390.out), GW390.out, GE390.out, NB376_390.out, NB390_376.out, (by repeat (first | (with_reducible first | exact HB.out | apply below_alloc | apply pw_below_drewN | apply below_drew1 | refine below_set ?_ GE376.out | refine below_set ?_ GE390.out) | exact HB.out))⟩)
         rintro ⟨v385, gb390⟩ w70 ⟨hS_, h0_, h1_, h2_, h3_, h4_, h5_, h6_, h7_⟩
         have n0_ : Aside0 (Kd.R (Kd.int .u8) 5 w70 w.heap.size (fun _ => True) v385 t384) := ⟨h0_⟩
         have n1_ : Aside0 (w70.heap[gb376]? = some (.cells #[.int .i64 0, .int .i64 0, .int .i64 0, .slice none 0 0, .int .i64 0, .int .i64 0, .int .i64 0] 38 (0, 0))) := ⟨h1_⟩
         have n2_ : Aside0 (w70.heap[gb390]? = some (.cells #[.int .i64 0, .int .i64 0, .int .i64 0, .slice none 0 0, .int .i64 0, .int .i64 0, .int .i64 0] 38 (0, 0))) := ⟨h2_⟩
         have n3_ : Aside0 (w.heap.size ≤ gb390) := ⟨h3_⟩
         have n4_ : Aside0 (w.heap.size ≤ gb390) := ⟨h4_⟩
         have n5_ : Aside0 (gb376 ≠ gb390) := ⟨h5_⟩
         have n6_ : Aside0 (gb390 ≠ gb376) := ⟨h6_⟩
         have n7_ : Aside0 (Below w.heap.size w w70) := ⟨h7_⟩
         clear BK376
         clear HB
         clear h0_ h1_ h2_ h3_ h4_ h5_ h6_ h7_
         have HO386 := n0_
         have BK376 := n1_
         have BK390 := n2_
         have GW390 := n3_
         have GE390 := n4_
         have NB376_390 := n5_
         have NB390_376 := n6_
         have HB := n7_
         clear n0_ n1_ n2_ n3_ n4_ n5_ n6_ n7_
         have hHeld : w70.cell? ad377 = some (.int .u8 (rd l0 0)) := hS_
         obtain ⟨Ao74, co74, eo74⟩ := Kd.R_slice HO386.out
         (first | subst eo74 | (injection eo74 with f1_ f2_ f3_; have f4_ := f1_.symm; have f5_ := f3_.symm; clear f1_ f2_ f3_; subst f4_; subst f5_))
         refine norm_ (a' := ?_) ?_ ?_
         rotate_left
         ·simp only [putAll, Act.put, Kx.sb, Kx.sz, Kx.ss]
          rfl
         refine last_ (i := 10) (N := none) #[true, true, true, true, true, true, true, true, true, true, true] rfl rfl (one_of HT_.out (by kernel_rfl)) (by decide) (fun K hK => ?_)
         have hs71 : w70.cell? ⟨gb390, 0, none⟩ = some (.int .i64 0) := (blk_cell BK390.out 0).trans rfl
         have hfs71 := blk_frozen BK390.out 0
         have hns71_0 := NB376_390.out
         have hms71_0 := NB390_376.out
         have hs72 : w70.cell? ⟨gb390, 1, none⟩ = some (.int .i64 0) := (blk_cell BK390.out 1).trans rfl
         have hfs72 := blk_frozen BK390.out 1
         have hns72_0 := NB376_390.out
         have hms72_0 := NB390_376.out
         have hs73 : w70.cell? ⟨gb390, 2, none⟩ = some (.int .i64 0) := (blk_cell BK390.out 2).trans rfl
         have hfs73 := blk_frozen BK390.out 2
         have hns73_0 := NB376_390.out
         have hms73_0 := NB390_376.out
         have hs75 : w70.cell? ⟨gb390, 3, none⟩ = some (.slice none 0 0) := (blk_cell BK390.out 3).trans rfl
         have hfs75 := blk_frozen BK390.out 3
         have hns75_0 := NB376_390.out
         have hms75_0 := NB390_376.out
         have hs76 : w70.cell? ⟨gb390, 4, none⟩ = some (.int .i64 0) := (blk_cell BK390.out 4).trans rfl
         have hfs76 := blk_frozen BK390.out 4
         have hns76_0 := NB376_390.out
         have hms76_0 := NB390_376.out
         have hs77 : w70.cell? ⟨gb390, 5, none⟩ = some (.int .i64 0) := (blk_cell BK390.out 5).trans rfl
         have hfs77 := blk_frozen BK390.out 5
         have hns77_0 := NB376_390.out
         have hms77_0 := NB390_376.out
         have hs78 : w70.cell? ⟨gb390, 6, none⟩ = some (.int .i64 0) := (blk_cell BK390.out 6).trans rfl
         have hfs78 := blk_frozen BK390.out 6
         have hns78_0 := NB376_390.out
         have hms78_0 := NB390_376.out
         refine skip_ (w1 := ?_) (by rfl) rfl ?_ ?_
         rotate_left
         ·go_simp
          rfl
         refine hK.out _ _ ?_
         clear hK K
         refine done_ (done_of HT_.out (by kernel_rfl)) ?_
         have hnb79 := NB390_376.out
         have hnc79 := NB376_390.out
         have hcz80_0 : w70.cell? ⟨gb390, 0, none⟩ = some (.int .i64 0) := (blk_cell BK390.out 0).trans rfl
         have hcz80_1 : w70.cell? ⟨gb390, 1, none⟩ = some (.int .i64 0) := (blk_cell BK390.out 1).trans rfl
         have hcz80_2 : w70.cell? ⟨gb390, 2, none⟩ = some (.int .i64 0) := (blk_cell BK390.out 2).trans rfl
         have hcz80_3 : w70.cell? ⟨gb390, 3, none⟩ = some (.slice none 0 0) := (blk_cell BK390.out 3).trans rfl
         have hcz80_4 : w70.cell? ⟨gb390, 4, none⟩ = some (.int .i64 0) := (blk_cell BK390.out 4).trans rfl
         have hcz80_5 : w70.cell? ⟨gb390, 5, none⟩ = some (.int .i64 0) := (blk_cell BK390.out 5).trans rfl
         have hcz80_6 : w70.cell? ⟨gb390, 6, none⟩ = some (.int .i64 0) := (blk_cell BK390.out 6).trans rfl
         have hfz80_0 := blk_frozen BK390.out 0
         have hfz80_1 := blk_frozen BK390.out 1
         have hfz80_2 := blk_frozen BK390.out 2
         have hfz80_3 := blk_frozen BK390.out 3
         have hfz80_4 := blk_frozen BK390.out 4
         have hfz80_5 := blk_frozen BK390.out 5
         have hfz80_6 := blk_frozen BK390.out 6
         try go_wp2_with (first | ((with_reducible refine gate_callee (f := 20) rfl ?_); refine goesL_ (some 40) rfl rfl Try.func20 (by kernel_rfl) rfl #[.agg #[.int .i64 t381, .int .i64 t382, .int .i64 t383, .slice Ao74 t384.length co74, .int .i64 t387, .int .i64 t388, .int .i64 t389]] rfl (by (try simp only [List.map_toArray, List.map_cons, List.map_nil]); first | done | rfl | (simp only [List.length_drop, List.length_take]; rfl)) ?_; (with_reducible refine (waggonerref16_Write.calls t381 t382 t383 _ _ t384 t387 t388 t389 t391 t394 _ ?side1 ?side2 A15.out).mono ?_); (case side1 => refine (Kd.R_reads' (e := 5) (base := w.heap.size) (ok := fun k_ => True) (n := t384.length) (c := co74) ?_).2.2; exact (by (with_reducible repeat (first | apply Kd.R_alloc | apply Kd.R_drewN | apply Kd.R_drew)); exact (Kd.R_mono (Kd.R_far (p := ⟨gb390, 6, none⟩) (Kd.R_far (p := ⟨gb390, 5, none⟩) (Kd.R_far (p := ⟨gb390, 4, none⟩) (Kd.R_far (p := ⟨gb390, 3, none⟩) (Kd.R_far (p := ⟨gb390, 2, none⟩) (Kd.R_far (p := ⟨gb390, 1, none⟩) (Kd.R_far (p := ⟨gb390, 0, none⟩) (Kd.R_types HO386.out BK390.out (by decide)) (fun _ hk => hk.2) (.int .i64 t381)) (fun _ hk => hk.2) (.int .i64 t382)) (fun _ hk => hk.2) (.int .i64 t383)) (fun _ hk => hk.2) (.slice Ao74 t384.length co74)) (fun _ hk => hk.2) (.int .i64 t387)) (fun _ hk => hk.2) (.int .i64 t388)) (fun _ hk => hk.2) (.int .i64 t389)) (fun _ h_ => h_.1)))); (case side2 => exact (Kd.R_reads' HO386.out).2.1); rintro e w81 ⟨v392, rfl, ho0, hb⟩; refine ⟨_, rfl, ?_⟩; have n0_ := Aside0.mk (Kd.R_elder' (by (with_reducible repeat (first | apply Kd.R_alloc | apply Kd.R_drewN | apply Kd.R_drew)); exact (Kd.R_mono (Kd.R_far (p := ⟨gb390, 6, none⟩) (Kd.R_far (p := ⟨gb390, 5, none⟩) (Kd.R_far (p := ⟨gb390, 4, none⟩) (Kd.R_far (p := ⟨gb390, 3, none⟩) (Kd.R_far (p := ⟨gb390, 2, none⟩) (Kd.R_far (p := ⟨gb390, 1, none⟩) (Kd.R_far (p := ⟨gb390, 0, none⟩) (Kd.R_types HO386.out BK390.out (by decide)) (fun _ hk => hk.2) (.int .i64 t381)) (fun _ hk => hk.2) (.int .i64 t382)) (fun _ hk => hk.2) (.int .i64 t383)) (fun _ hk => hk.2) (.slice Ao74 t384.length co74)) (fun _ hk => hk.2) (.int .i64 t387)) (fun _ hk => hk.2) (.int .i64 t388)) (fun _ hk => hk.2) (.int .i64 t389)) (fun _ h_ => h_.1))) (Kd.R_base ho0) hb); have n1_ := Aside0.mk (Kd.R_lower (Kd.R_new' ho0 (Kd.R_lt (by (with_reducible repeat (first | apply Kd.R_alloc | apply Kd.R_drewN | apply Kd.R_drew)); exact (Kd.R_mono (Kd.R_far (p := ⟨gb390, 6, none⟩) (Kd.R_far (p := ⟨gb390, 5, none⟩) (Kd.R_far (p := ⟨gb390, 4, none⟩) (Kd.R_far (p := ⟨gb390, 3, none⟩) (Kd.R_far (p := ⟨gb390, 2, none⟩) (Kd.R_far (p := ⟨gb390, 1, none⟩) (Kd.R_far (p := ⟨gb390, 0, none⟩) (Kd.R_types HO386.out BK390.out (by decide)) (fun _ hk => hk.2) (.int .i64 t381)) (fun _ hk => hk.2) (.int .i64 t382)) (fun _ hk => hk.2) (.int .i64 t383)) (fun _ hk => hk.2) (.slice Ao74 t384.length co74)) (fun _ hk => hk.2) (.int .i64 t387)) (fun _ hk => hk.2) (.int .i64 t388)) (fun _ hk => hk.2) (.int .i64 t389)) (fun _ h_ => h_.1))))) (below_size (by repeat (first | (with_reducible first | exact HB.out | apply below_alloc | apply pw_below_drewN | apply below_drew1 | refine below_set ?_ GE376.out | refine below_set ?_ GE390.out) | exact HB.out)))); have n2_ := Aside0.mk (blk_below (g := gb376) (o := .cells #[.int .i64 0, .int .i64 0, .int .i64 0, .slice none 0 0, .int .i64 0, .int .i64 0, .int .i64 0] 38 (0, 0)) (by (with_reducible repeat (first | refine blk_drewN ?_ _ | refine blk_drew ?_ | refine blk_alloc ?_ _)); refine blk_far ?_ NB376_390.out _; (with_reducible repeat (first | refine blk_drewN ?_ _ | refine blk_drew ?_ | refine blk_alloc ?_ _)); refine blk_far ?_ NB376_390.out _; (with_reducible repeat (first | refine blk_drewN ?_ _ | refine blk_drew ?_ | refine blk_alloc ?_ _)); refine blk_far ?_ NB376_390.out _; (with_reducible repeat (first | refine blk_drewN ?_ _ | refine blk_drew ?_ | refine blk_alloc ?_ _)); refine blk_far ?_ NB376_390.out _; (with_reducible repeat (first | refine blk_drewN ?_ _ | refine blk_drew ?_ | refine blk_alloc ?_ _)); refine blk_far ?_ NB376_390.out _; (with_reducible repeat (first | refine blk_drewN ?_ _ | refine blk_drew ?_ | refine blk_alloc ?_ _)); refine blk_far ?_ NB376_390.out _; (with_reducible repeat (first | refine blk_drewN ?_ _ | refine blk_drew ?_ | refine blk_alloc ?_ _)); refine blk_far ?_ NB376_390.out _; (with_reducible repeat (first | refine blk_drewN ?_ _ | refine blk_drew ?_ | refine blk_alloc ?_ _)); exact BK376.out) hb); have n3_ := Aside0.mk (blk_below (g := gb390) (o := .cells #[.int .i64 t381, .int .i64 t382, .int .i64 t383, .slice Ao74 t384.length co74, .int .i64 t387, .int .i64 t388, .int .i64 t389] 38 (0, 0)) (by (with_reducible repeat (first | refine blk_drewN ?_ _ | refine blk_drew ?_ | refine blk_alloc ?_ _)); refine blk_put (cs := #[.int .i64 t381, .int .i64 t382, .int .i64 t383, .slice Ao74 t384.length co74, .int .i64 t387, .int .i64 t388, .int .i64 0]) ?_ 6 _ rfl; (with_reducible repeat (first | refine blk_drewN ?_ _ | refine blk_drew ?_ | refine blk_alloc ?_ _)); refine blk_put (cs := #[.int .i64 t381, .int .i64 t382, .int .i64 t383, .slice Ao74 t384.length co74, .int .i64 t387, .int .i64 0, .int .i64 0]) ?_ 5 _ rfl; (with_reducible repeat (first | refine blk_drewN ?_ _ | refine blk_drew ?_ | refine blk_alloc ?_ _)); refine blk_put (cs := #[.int .i64 t381, .int .i64 t382, .int .i64 t383, .slice Ao74 t384.length co74, .int .i64 0, .int .i64 0, .int .i64 0]) ?_ 4 _ rfl; (with_reducible repeat (first | refine blk_drewN ?_ _ | refine blk_drew ?_ | refine blk_alloc ?_ _)); refine blk_put (cs := #[.int .i64 t381, .int .i64 t382, .int .i64 t383, .slice none 0 0, .int .i64 0, .int .i64 0, .int .i64 0]) ?_ 3 _ rfl; (with_reducible repeat (first | refine blk_drewN ?_ _ | refine blk_drew ?_ | refine blk_alloc ?_ _)); refine blk_put (cs := #[.int .i64 t381, .int .i64 t382, .int .i64 0, .slice none 0 0, .int .i64 0, .int .i64 0, .int .i64 0]) ?_ 2 _ rfl; (with_reducible repeat (first | refine blk_drewN ?_ _ | refine blk_drew ?_ | refine blk_alloc ?_ _)); refine blk_put (cs := #[.int .i64 t381, .int .i64 0, .int .i64 0, .slice none 0 0, .int .i64 0, .int .i64 0, .int .i64 0]) ?_ 1 _ rfl; (with_reducible repeat (first | refine blk_drewN ?_ _ | refine blk_drew ?_ | refine blk_alloc ?_ _)); refine blk_put (cs := #[.int .i64 0, .int .i64 0, .int .i64 0, .slice none 0 0, .int .i64 0, .int .i64 0, .int .i64 0]) ?_ 0 _ rfl; (with_reducible repeat (first | refine blk_drewN ?_ _ | refine blk_drew ?_ | refine blk_alloc ?_ _)); exact BK390.out) hb); have n4_ := Aside0.mk (below_step (by repeat (first | (with_reducible first | exact HB.out | apply below_alloc | apply pw_below_drewN | apply below_drew1 | refine below_set ?_ GE376.out | refine below_set ?_ GE390.out) | exact HB.out)) hb); clear HO386; clear BK376; clear BK390; clear HB; have HO386 := n0_; have HO393 := n1_; have BK376 := n2_; have BK390 := n3_; have HB := n4_; clear n0_ n1_ n2_ n3_ n4_; (try clear hb); (try clear hb2); (try clear hk); (try clear hi); (try clear ho0)))
         have n0_ := Aside0.mk (Kd.R_drew HO386.out)
         have n1_ := Aside0.mk (Kd.R_drew HO393.out)
         have n2_ := Aside0.mk (blk_drew BK376.out)
         have n3_ := Aside0.mk (blk_drew BK390.out)
         have n4_ := Aside0.mk (below_drew1 HB.out)
         clear HO386
         clear HO393
         clear BK376
         clear BK390
         clear HB
         have HO386 := n0_
         have HO393 := n1_
         have BK376 := n2_
         have BK390 := n3_
         have HB := n4_
         clear n0_ n1_ n2_ n3_ n4_
         refine start_ (n := 12) (S := fun w' => True) (ds := []) #[false, false, false, false, false, false, false, false, false, false, false, false] (by kernel_rfl) rfl rfl trivial (fun hHeld => ?_); refine with_tabW waggonerref16_Read_p.tab8 waggonerref16_Read_p.bits8 (fun HT_ HW_ => ?_)
         generalize w81.drew = w82 at HO386 HO393 BK376 BK390 HB hHeld ⊢
         refine pure_ (i := 0) (N := some 43) (v := ?_) (a' := ?_) #[true, false, false, false, false, false, false, false, false, false, false, false] rfl rfl (any_of HT_.out (by kernel_rfl)) (fun _ _ _ h => h) (Or.inl ⟨by rfl, ?_⟩) ?_ ?_
         rotate_left
         ·intro w'
          go_simp
          with_reducible rfl
         rotate_left
         ·simp only [Act.put, Kx.sb, Kx.sz, Kx.ss, i64_w, i32_w]
          rfl
         refine pure_ (i := 1) (N := some 44) (v := ?_) (a' := ?_) #[true, true, false, false, false, false, false, false, false, false, false, false] rfl rfl (any_of HT_.out (by kernel_rfl)) (fun _ _ _ h => h) (Or.inl ⟨by rfl, ?_⟩) ?_ ?_
         rotate_left
         ·intro w'
          go_simp
          with_reducible rfl
         rotate_left
         ·simp only [Act.put, Kx.sb, Kx.sz, Kx.ss, i64_w, i32_w]
          rfl
         refine pure_ (i := 2) (N := some 45) (v := ?_) (a' := ?_) #[true, true, true, false, false, false, false, false, false, false, false, false] rfl rfl (any_of HT_.out (by kernel_rfl)) (fun _ _ _ h => h) (Or.inl ⟨by rfl, ?_⟩) ?_ ?_
         rotate_left
         ·intro w'
          go_simp
          with_reducible rfl
         rotate_left
         ·simp only [Act.put, Kx.sb, Kx.sz, Kx.ss, i64_w, i32_w]
          rfl
         refine pure_ (i := 3) (N := some 46) (v := undef) (a' := ?_) #[true, true, true, true, false, false, false, false, false, false, false, false] rfl rfl (any_of HT_.out (by kernel_rfl)) (fun _ _ _ h => h) (Or.inr ⟨by rfl, rfl⟩) ?_ ?_
         rotate_left
         ·simp only [Act.put, Kx.sb, Kx.sz, Kx.ss, i64_w, i32_w]
          rfl
         refine pure_ (i := 4) (N := some 47) (v := undef) (a' := ?_) #[true, true, true, true, true, false, false, false, false, false, false, false] rfl rfl (any_of HT_.out (by kernel_rfl)) (fun _ _ _ h => h) (Or.inr ⟨by rfl, rfl⟩) ?_ ?_
         rotate_left
         ·simp only [Act.put, Kx.sb, Kx.sz, Kx.ss, i64_w, i32_w]
          rfl
         refine pure_ (i := 5) (N := some 48) (v := undef) (a' := ?_) #[true, true, true, true, true, true, false, false, false, false, false, false] rfl rfl (any_of HT_.out (by kernel_rfl)) (fun _ _ _ h => h) (Or.inr ⟨by rfl, rfl⟩) ?_ ?_
         rotate_left
         ·simp only [Act.put, Kx.sb, Kx.sz, Kx.ss, i64_w, i32_w]
          rfl
         refine pure_ (i := 6) (N := some 49) (v := undef) (a' := ?_) #[true, true, true, true, true, true, true, false, false, false, false, false] rfl rfl (any_of HT_.out (by kernel_rfl)) (fun _ _ _ h => h) (Or.inr ⟨by rfl, rfl⟩) ?_ ?_
         rotate_left
         ·simp only [Act.put, Kx.sb, Kx.sz, Kx.ss, i64_w, i32_w]
          rfl
         refine pure_ (i := 7) (N := some 50) (v := undef) (a' := ?_) #[true, true, true, true, true, true, true, true, false, false, false, false] rfl rfl (any_of HT_.out (by kernel_rfl)) (fun _ _ _ h => h) (Or.inr ⟨by rfl, rfl⟩) ?_ ?_
         rotate_left
         ·simp only [Act.put, Kx.sb, Kx.sz, Kx.ss, i64_w, i32_w]
          rfl
         refine pure_ (i := 8) (N := some 51) (v := undef) (a' := ?_) #[true, true, true, true, true, true, true, true, true, false, false, false] rfl rfl (any_of HT_.out (by kernel_rfl)) (fun _ _ _ h => h) (Or.inr ⟨by rfl, rfl⟩) ?_ ?_
         rotate_left
         ·simp only [Act.put, Kx.sb, Kx.sz, Kx.ss, i64_w, i32_w]
          rfl
         refine pure_ (i := 9) (N := some 52) (v := undef) (a' := ?_) #[true, true, true, true, true, true, true, true, true, true, false, false] rfl rfl (any_of HT_.out (by kernel_rfl)) (fun _ _ _ h => h) (Or.inr ⟨by rfl, rfl⟩) ?_ ?_
         rotate_left
         ·simp only [Act.put, Kx.sb, Kx.sz, Kx.ss, i64_w, i32_w]
          rfl
         refine pure_ (i := 10) (N := some 53) (v := undef) (a' := ?_) #[true, true, true, true, true, true, true, true, true, true, true, false] rfl rfl (any_of HT_.out (by kernel_rfl)) (fun _ _ _ h => h) (Or.inr ⟨by rfl, rfl⟩) ?_ ?_
         rotate_left
         ·simp only [Act.put, Kx.sb, Kx.sz, Kx.ss, i64_w, i32_w]
          rfl
         refine pure_ (i := 11) (N := some 54) (v := ?_) (a' := ?_) #[true, true, true, true, true, true, true, true, true, true, true, true] rfl rfl (any_of HT_.out (by kernel_rfl)) (fun _ _ _ h => h) (Or.inl ⟨by rfl, ?_⟩) ?_ ?_
         rotate_left
         ·intro w'
          go_simp
          with_reducible rfl
         rotate_left
         ·simp only [Act.put, Kx.sb, Kx.sz, Kx.ss, i64_w, i32_w]
          rfl
         refine done_ (done_of HT_.out (by kernel_rfl)) ?_
         have hcz83_0 : w82.cell? ⟨gb376, 0, none⟩ = some (.int .i64 0) := (blk_cell BK376.out 0).trans rfl
         have hcz83_1 : w82.cell? ⟨gb376, 1, none⟩ = some (.int .i64 0) := (blk_cell BK376.out 1).trans rfl
         have hcz83_2 : w82.cell? ⟨gb376, 2, none⟩ = some (.int .i64 0) := (blk_cell BK376.out 2).trans rfl
         have hcz83_3 : w82.cell? ⟨gb376, 3, none⟩ = some (.slice none 0 0) := (blk_cell BK376.out 3).trans rfl
         have hcz83_4 : w82.cell? ⟨gb376, 4, none⟩ = some (.int .i64 0) := (blk_cell BK376.out 4).trans rfl
         have hcz83_5 : w82.cell? ⟨gb376, 5, none⟩ = some (.int .i64 0) := (blk_cell BK376.out 5).trans rfl
         have hcz83_6 : w82.cell? ⟨gb376, 6, none⟩ = some (.int .i64 0) := (blk_cell BK376.out 6).trans rfl
         have hfz83_0 := blk_frozen BK376.out 0
         have hfz83_1 := blk_frozen BK376.out 1
         have hfz83_2 := blk_frozen BK376.out 2
         have hfz83_3 := blk_frozen BK376.out 3
         have hfz83_4 := blk_frozen BK376.out 4
         have hfz83_5 := blk_frozen BK376.out 5
         have hfz83_6 := blk_frozen BK376.out 6
         try go_wp2
         refine bodyPost_ret (results_ctt rfl _ _ gb376 38 #[.int .i64 0, .int .i64 0, .int .i64 0, .slice none 0 0, .int .i64 0, .int .i64 0, .int .i64 0] (0, 0) _ rfl (by (with_reducible repeat (first | refine blk_drewN ?_ _ | refine blk_drew ?_ | refine blk_alloc ?_ _)); refine blk_put (cs := #[.int .i64 0, .int .i64 0, .int .i64 0, .slice none 0 0, .int .i64 0, .int .i64 0, .int .i64 0]) ?_ 6 _ rfl; (with_reducible repeat (first | refine blk_drewN ?_ _ | refine blk_drew ?_ | refine blk_alloc ?_ _)); refine blk_put (cs := #[.int .i64 0, .int .i64 0, .int .i64 0, .slice none 0 0, .int .i64 0, .int .i64 0, .int .i64 0]) ?_ 5 _ rfl; (with_reducible repeat (first | refine blk_drewN ?_ _ | refine blk_drew ?_ | refine blk_alloc ?_ _)); refine blk_put (cs := #[.int .i64 0, .int .i64 0, .int .i64 0, .slice none 0 0, .int .i64 0, .int .i64 0, .int .i64 0]) ?_ 4 _ rfl; (with_reducible repeat (first | refine blk_drewN ?_ _ | refine blk_drew ?_ | refine blk_alloc ?_ _)); refine blk_put (cs := #[.int .i64 0, .int .i64 0, .int .i64 0, .slice none 0 0, .int .i64 0, .int .i64 0, .int .i64 0]) ?_ 3 _ rfl; (with_reducible repeat (first | refine blk_drewN ?_ _ | refine blk_drew ?_ | refine blk_alloc ?_ _)); refine blk_put (cs := #[.int .i64 0, .int .i64 0, .int .i64 0, .slice none 0 0, .int .i64 0, .int .i64 0, .int .i64 0]) ?_ 2 _ rfl; (with_reducible repeat (first | refine blk_drewN ?_ _ | refine blk_drew ?_ | refine blk_alloc ?_ _)); refine blk_put (cs := #[.int .i64 0, .int .i64 0, .int .i64 0, .slice none 0 0, .int .i64 0, .int .i64 0, .int .i64 0]) ?_ 1 _ rfl; (with_reducible repeat (first | refine blk_drewN ?_ _ | refine blk_drew ?_ | refine blk_alloc ?_ _)); refine blk_put (cs := #[.int .i64 0, .int .i64 0, .int .i64 0, .slice none 0 0, .int .i64 0, .int .i64 0, .int .i64 0]) ?_ 0 _ rfl; (with_reducible repeat (first | refine blk_drewN ?_ _ | refine blk_drew ?_ | refine blk_alloc ?_ _)); exact BK376.out) Try.underlying38 rfl (by kernel_rfl)) rfl ?_
         exact ⟨_, by first | rfl | (simp [errW_none, errW_some] <;> rfl) | (simp [*, errW_none, errW_some] <;> rfl), by first | exact Kd.R_nil _ _ _ _ _ | exact Kd.N_nil _ _ _ _ _ | exact Kd.V_nil _ _ _ _ _ | exact Kd.Q_nil _ _ _ _ _ | exact Kd.S_nil _ _ _ _ _, by repeat (first | (with_reducible first | exact HB.out | apply below_alloc | apply pw_below_drewN | apply below_drew1 | refine below_set ?_ GE376.out | refine below_set ?_ GE390.out) | exact HB.out)⟩
       ·rw [if_neg c13] at H
        exact absurd H (by simp)
      ·rw [if_neg c12] at H
       exact absurd H (by simp)
     ·rw [if_neg c11] at H
      exact absurd H (by simp)
   ·rw [if_neg c6] at H
    exact absurd H (by simp)
  ·rw [if_neg c5] at H
   exact absurd H (by simp)
end Go.Proofs.Ytohkmmbmfhficaa.PT
