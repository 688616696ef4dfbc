/- Words and walks that this claim names, of those that the kit's print and programs of this workplace have printed. -/
import Derived.Test.YtohkmmbmfhficaaZTCz
import Derived.Test.YtohkmmbmfhficaaZTPTx5
import Derived.Test.YtohkmmbmfhficaaZTPTx47
import Derived.Test.YtohkmmbmfhficaaZTPTx8
namespace Go.Proofs.Ytohkmmbmfhficaa.PT
open Go.Proofs.Ytohkmmbmfhficaa Go.RowKit Go.Proofs.YtohkmmbmfhficaaW.PrintWords Go.Proofs.YtohkmmbmfhficaaW.PrintLast Go.Proofs.YtohkmmbmfhficaaW.PrintMore
attribute [local go_sem] max2_int min2_int max_two min_two max_three min_three max_four min_four
set_option linter.unusedVariables false
set_option linter.unusedSimpArgs false
def extent_Join_p.f (a0_0 : Int) (a0_1 : Int) (a0_2 : Int) (a0_3 : Int) (l0_4 : List Int) (a1_0 : Int) (a1_1 : Int) (a1_2 : Int) (a1_3 : Int) (l1_4 : List Int) : Option (Int × Int × Int × Int × List Int × Int) := (extent_Joins.f a0_0 a0_1 a0_2 a0_3 l0_4 a1_0 a1_1 a1_2 a1_3 l1_4).bind fun t221 => (if t221 = true then ((bytes_Clone.f l0_4).bind fun t222 => (if t222.length + l1_4.length < 140737488355328 then (some (a0_0, wrap64 (a0_1 + a1_1), a0_2, a0_3, (t222 ++ l1_4), 0)) else (none))) else (some (0, 0, 0, 0, ([] : List Int), 70)))
def extent_Join_p.T4 : Bool × List (List Nat × List Nat) := (true, [([], []), ([0], [0]), ([1], [1]), ([], []), ([3], [3]), ([2, 4, 2], [2, 4]), ([0, 1, 2, 3, 4, 5], []), ([6, 5, 5, 0, 1, 2, 3, 4, 5], [5, 6])])
def extent_Join_p.B4 : List Nat := [0, 1, 3, 0, 8, 31, 63, 127]
theorem extent_Join_p.tab4 : rtab .any (opsOf Try.f81 4) = extent_Join_p.T4 := by kernel_rfl
theorem extent_Join_p.bits4 : waitsOk extent_Join_p.T4.2 extent_Join_p.B4 = true := by kernel_rfl
set_option maxHeartbeats 8000000 in
set_option maxRecDepth 100000 in
theorem extent_Join_p.calls (a0_0 : Int) (a0_1 : Int) (a0_2 : Int) (a0_3 : Int) (A0_4 : Option Addr) (c0_4 : Nat) (l0_4 : List Int) (a1_0 : Int) (a1_1 : Int) (a1_2 : Int) (a1_3 : Int) (A1_4 : Option Addr) (c1_4 : Nat) (l1_4 : List Int) (r1 : Int) (r2 : Int) (r3 : Int) (r4 : Int) (r5 : List Int) (r6 : Int) (w : World) (hr0_4 : Kd.C (Kd.int .u8) w A0_4 l0_4.length l0_4) (hc0_4 : l0_4.length ≤ c0_4) (hr1_4 : Kd.C (Kd.int .u8) w A1_4 l1_4.length l1_4) (hc1_4 : l1_4.length ≤ c1_4) (h : extent_Join_p.f a0_0 a0_1 a0_2 a0_3 l0_4 a1_0 a1_1 a1_2 a1_3 l1_4 = some (r1, r2, r3, r4, r5, r6)) :
  Calls Try.prog 81 #[.agg #[.int .i64 a0_0, .int .i64 a0_1, .int .i64 a0_2, .int .i64 a0_3, .slice A0_4 l0_4.length c0_4], .agg #[.int .i64 a1_0, .int .i64 a1_1, .int .i64 a1_2, .int .i64 a1_3, .slice A1_4 l1_4.length c1_4]] w fun e w' => ∃ v4_ : Value, e = .returned (.tuple #[.agg #[.int .i64 r1, .int .i64 r2, .int .i64 r3, .int .i64 r4, v4_], .int .i64 r6]) ∧ Kd.R (Kd.int .u8) 5 w' w.heap.size (fun _ => True) v4_ r5 ∧ Below w.heap.size w w' := by
 have hu0 := Try.underlying36
 have HR0_4 := Aside0.mk hr0_4
 have HC0_4 := Aside0.mk hc0_4
 clear hr0_4 hc0_4
 have HR1_4 := Aside0.mk hr1_4
 have HC1_4 := Aside0.mk hc1_4
 clear hr1_4 hc1_4
 have HB := Aside0.mk (Below.refl w.heap.size w)
 have H : ((extent_Joins.f a0_0 a0_1 a0_2 a0_3 l0_4 a1_0 a1_1 a1_2 a1_3 l1_4).bind fun t0 => (if t0 = true then ((bytes_Clone.f l0_4).bind fun t222 => (if t222.length + l1_4.length < 140737488355328 then (some (a0_0, wrap64 (a0_1 + a1_1), a0_2, a0_3, (t222 ++ l1_4), 0)) else (none))) else (some (0, 0, 0, 0, ([] : List Int), 70)))) = some (r1, r2, r3, r4, r5, r6) := h
 clear h
 replace H := Option.bind_eq_some_iff.mp H
 obtain ⟨t0, A2, H⟩ := H
 (try dsimp only at H)
 have A3 := Aside0.mk A2
 clear A2
 by_cases c4 : t0 = true
 rotate_left
 ·replace c4 := Bool.eq_false_iff.mpr c4
  subst c4
  rw [if_neg (show ¬ (false = true) by decide)] at H
  simp only [Option.some.injEq, Prod.mk.injEq] at H
  obtain ⟨rfl, rfl, rfl, rfl, rfl, rfl⟩ := H
  go_enter Try.func81, Try.ntmps81
  go_wp2_with (first | ((with_reducible refine gate_dst (N := 2) rfl ?_); refine Cz.bx (N := 2) #[.int .i64 a0_0, .int .i64 a0_1, .int .i64 a0_2, .int .i64 a0_3, .slice A0_4 l0_4.length c0_4] 36 ?_; intro gb0 hg w2 hbox hb; have BK0 := Aside0.mk (hbox); have GW0 := Aside0.mk ((Cz.gs hg : w.heap.size ≤ gb0)); have GE0 := GW0; replace HB := Cz.bs (w := w) hb; clear hb hbox hg) | ((with_reducible refine gate_dst (N := 3) rfl ?_); refine Cz.bx (N := 3) #[.int .i64 a1_0, .int .i64 a1_1, .int .i64 a1_2, .int .i64 a1_3, .slice A1_4 l1_4.length c1_4] 36 ?_; intro gb1 hg w3 hbox hb; have BK1 := Aside0.mk (hbox); have GW1 := Aside0.mk ((Cz.gs hg : w.heap.size ≤ gb1)); have GE1 := GW1; have NB0_219 := Aside0.mk ((Cz.nl BK0 hg : gb0 ≠ gb1)); have NB1_218 := Aside0.mk ((Cz.nr BK0 hg : gb1 ≠ gb0)); replace BK0 := Cz.bk BK0 hb; replace HB := Cz.bs (w := w) hb; clear hb hbox hg) | ((with_reducible refine gate_dst (N := 4) rfl ?_); refine Cz.bx (N := 4) #[.int .i64 0, .int .i64 0, .int .i64 0, .int .i64 0, .slice none 0 0] 36 ?_; intro gb2 hg w4 hbox hb; have BK2 := Aside0.mk (hbox); have GW2 := Aside0.mk ((Cz.gs hg : w.heap.size ≤ gb2)); have GE2 := GW2; have NB0_220 := Aside0.mk ((Cz.nl BK0 hg : gb0 ≠ gb2)); have NB2_218 := Aside0.mk ((Cz.nr BK0 hg : gb2 ≠ gb0)); have NB1_220 := Aside0.mk ((Cz.nl BK1 hg : gb1 ≠ gb2)); have NB2_219 := Aside0.mk ((Cz.nr BK1 hg : gb2 ≠ gb1)); replace BK0 := Cz.bk BK0 hb; replace BK1 := Cz.bk BK1 hb; replace HB := Cz.bs (w := w) hb; clear hb hbox hg; have hnb0 := NB0_219.out; have hnc0 := NB1_218.out; have hnb1 := NB0_220.out; have hnc1 := NB2_218.out; obtain ⟨z0_0, z0_1, z0_2, z0_3, z0_4, y0_0, y0_1, y0_2, y0_3, y0_4⟩ := Cz.d5 BK0; have hnb2 := NB1_220.out; have hnc2 := NB2_219.out; obtain ⟨z1_0, z1_1, z1_2, z1_3, z1_4, y1_0, y1_1, y1_2, y1_3, y1_4⟩ := Cz.d5 BK1) | ((with_reducible refine gate_callee (f := 56) rfl ?_); refine Cz.gL (N := (some 8)) Try.func56 #[.agg #[.int .i64 a0_0, .int .i64 a0_1, .int .i64 a0_2, .int .i64 a0_3, .slice A0_4 l0_4.length c0_4], .agg #[.int .i64 a1_0, .int .i64 a1_1, .int .i64 a1_2, .int .i64 a1_3, .slice A1_4 l1_4.length c1_4]] ?_; (with_reducible refine (extent_Joins.calls a0_0 a0_1 a0_2 a0_3 _ _ l0_4 a1_0 a1_1 a1_2 a1_3 _ _ l1_4 false _ ?side0 ?side1 ?side2 ?side3 A3.out).mono ?_); (case side0 => exact Cz.cb HR0_4); (case side1 => exact HC0_4.out); (case side2 => exact Cz.cb HR1_4); (case side3 => exact HC1_4.out); rintro e w5 ⟨rfl, hb⟩; refine ⟨_, rfl, ?_⟩; replace BK0 := Cz.bk BK0 hb; replace BK1 := Cz.bk BK1 hb; replace BK2 := Cz.bk BK2 hb; replace HB := Cz.bs (w := w) hb; (try clear hb); obtain ⟨z2_0, z2_1, z2_2, z2_3, z2_4, y2_0, y2_1, y2_2, y2_3, y2_4⟩ := Cz.d5 BK2))
  refine bodyPost_ret (results_ct rfl _ _ gb2 36 #[.int .i64 0, .int .i64 0, .int .i64 0, .int .i64 0, .slice none 0 0] (0, 0) _ rfl (by (with_reducible repeat (first | refine blk_drewN ?_ _ | refine blk_drew ?_ | refine blk_alloc ?_ _)); apply Cz.a5; (with_reducible repeat (first | refine blk_drewN ?_ _ | refine blk_drew ?_ | refine blk_alloc ?_ _)); exact BK2.out) Try.underlying36 rfl (by kernel_rfl)) rfl ?_
  exact ⟨_, Cz.er, by first | exact Kd.R_nil _ _ _ _ _ | exact Kd.N_nil _ _ _ _ _ | exact Kd.V_nil _ _ _ _ _ | exact Kd.Q_nil _ _ _ _ _ | exact Kd.S_nil _ _ _ _ _, Cz.bl (w := w)⟩
 subst c4
 rw [if_pos rfl] at H
 replace H := Option.bind_eq_some_iff.mp H
 obtain ⟨t222, A4, H⟩ := H
 (try dsimp only at H)
 have A5 := Aside0.mk A4
 clear A4
 by_cases c6 : t222.length + l1_4.length < 140737488355328
 rotate_left
 ·rw [if_neg c6] at H
  exact absurd H (by simp)
 rw [if_pos c6] at H
 have LMc0 := Aside0.mk c6
 clear c6
 obtain ⟨y0, hy0⟩ : ∃ y_ : List Int, y_ = (t222 ++ l1_4) := ⟨_, rfl⟩
 replace H : (some (a0_0, wrap64 (a0_1 + a1_1), a0_2, a0_3, y0, 0)) = some (r1, r2, r3, r4, r5, r6) := by first | (rw [hy0]; with_reducible exact H) | (have H0_ := (Option.bind_some _ _).symm.trans H; rw [hy0]; with_reducible exact H0_) | (have H0_ := (Option.bind_some _ _).symm.trans H; with_reducible exact H0_) | with_reducible exact H | (rw [hy0]; exact H) | exact H
 have Ny0 := Aside0.mk hy0
 clear hy0
 simp only [Option.some.injEq, Prod.mk.injEq] at H
 obtain ⟨rfl, rfl, rfl, rfl, rfl, rfl⟩ := H
 go_enter Try.func81, Try.ntmps81
 try go_wp2_with (first | ((with_reducible refine gate_dst (N := 2) rfl ?_); refine Cz.bx (N := 2) #[.int .i64 a0_0, .int .i64 a0_1, .int .i64 a0_2, .int .i64 a0_3, .slice A0_4 l0_4.length c0_4] 36 ?_; intro gb0 hg w7 hbox hb; have BK0 := Aside0.mk (hbox); have GW0 := Aside0.mk ((Cz.gs hg : w.heap.size ≤ gb0)); have GE0 := GW0; replace HB := Cz.bs (w := w) hb; clear hb hbox hg) | ((with_reducible refine gate_dst (N := 3) rfl ?_); refine Cz.bx (N := 3) #[.int .i64 a1_0, .int .i64 a1_1, .int .i64 a1_2, .int .i64 a1_3, .slice A1_4 l1_4.length c1_4] 36 ?_; intro gb1 hg w8 hbox hb; have BK1 := Aside0.mk (hbox); have GW1 := Aside0.mk ((Cz.gs hg : w.heap.size ≤ gb1)); have GE1 := GW1; have NB0_219 := Aside0.mk ((Cz.nl BK0 hg : gb0 ≠ gb1)); have NB1_218 := Aside0.mk ((Cz.nr BK0 hg : gb1 ≠ gb0)); replace BK0 := Cz.bk BK0 hb; replace HB := Cz.bs (w := w) hb; clear hb hbox hg) | ((with_reducible refine gate_dst (N := 4) rfl ?_); refine Cz.bx (N := 4) #[.int .i64 0, .int .i64 0, .int .i64 0, .int .i64 0, .slice none 0 0] 36 ?_; intro gb2 hg w2 hbox hb; have BK2 := Aside0.mk (hbox); have GW2 := Aside0.mk ((Cz.gs hg : w.heap.size ≤ gb2)); have GE2 := GW2; have NB0_220 := Aside0.mk ((Cz.nl BK0 hg : gb0 ≠ gb2)); have NB2_218 := Aside0.mk ((Cz.nr BK0 hg : gb2 ≠ gb0)); have NB1_220 := Aside0.mk ((Cz.nl BK1 hg : gb1 ≠ gb2)); have NB2_219 := Aside0.mk ((Cz.nr BK1 hg : gb2 ≠ gb1)); replace BK0 := Cz.bk BK0 hb; replace BK1 := Cz.bk BK1 hb; replace HB := Cz.bs (w := w) hb; clear hb hbox hg; have hnb0 := NB0_219.out; have hnc0 := NB1_218.out; have hnb1 := NB0_220.out; have hnc1 := NB2_218.out; obtain ⟨z0_0, z0_1, z0_2, z0_3, z0_4, y1_0, y1_1, y1_2, y1_3, y1_4⟩ := Cz.d5 BK0; have hnb2 := NB1_220.out; have hnc2 := NB2_219.out; obtain ⟨z1_0, z1_1, z1_2, z1_3, z1_4, y2_0, y2_1, y2_2, y2_3, y2_4⟩ := Cz.d5 BK1) | ((with_reducible refine gate_callee (f := 56) rfl ?_); refine Cz.gL (N := (some 8)) Try.func56 #[.agg #[.int .i64 a0_0, .int .i64 a0_1, .int .i64 a0_2, .int .i64 a0_3, .slice A0_4 l0_4.length c0_4], .agg #[.int .i64 a1_0, .int .i64 a1_1, .int .i64 a1_2, .int .i64 a1_3, .slice A1_4 l1_4.length c1_4]] ?_; (with_reducible refine (extent_Joins.calls a0_0 a0_1 a0_2 a0_3 _ _ l0_4 a1_0 a1_1 a1_2 a1_3 _ _ l1_4 true _ ?side0 ?side1 ?side2 ?side3 A3.out).mono ?_); (case side0 => exact Cz.cb HR0_4); (case side1 => exact HC0_4.out); (case side2 => exact Cz.cb HR1_4); (case side3 => exact HC1_4.out); rintro e w3 ⟨rfl, hb⟩; refine ⟨_, rfl, ?_⟩; replace BK0 := Cz.bk BK0 hb; replace BK1 := Cz.bk BK1 hb; replace BK2 := Cz.bk BK2 hb; replace HB := Cz.bs (w := w) hb; (try clear hb); obtain ⟨z2_0, z2_1, z2_2, z2_3, z2_4, y3_0, y3_1, y3_2, y3_3, y3_4⟩ := Cz.d5 BK0; obtain ⟨z3_0, z3_1, z3_2, z3_3, z3_4, y4_0, y4_1, y4_2, y4_3, y4_4⟩ := Cz.d5 BK1))
 have n0_ : Aside0 ((w3.setCell ⟨gb0, 1, none⟩ (.int .i64 (wrap64 (a0_1 + a1_1)))).heap[gb0]? = some (.cells #[.int .i64 a0_0, .int .i64 (wrap64 (a0_1 + a1_1)), .int .i64 a0_2, .int .i64 a0_3, .slice A0_4 l0_4.length c0_4] 36 (0, 0))) := ⟨by (with_reducible repeat (first | refine blk_drewN ?_ _ | refine blk_drew ?_ | refine blk_alloc ?_ _)); refine blk_put (cs := #[.int .i64 a0_0, .int .i64 a0_1, .int .i64 a0_2, .int .i64 a0_3, .slice A0_4 l0_4.length c0_4]) ?_ 1 _ rfl; (with_reducible repeat (first | refine blk_drewN ?_ _ | refine blk_drew ?_ | refine blk_alloc ?_ _)); exact BK0.out⟩
 have n1_ : Aside0 ((w3.setCell ⟨gb0, 1, none⟩ (.int .i64 (wrap64 (a0_1 + a1_1)))).heap[gb1]? = some (.cells #[.int .i64 a1_0, .int .i64 a1_1, .int .i64 a1_2, .int .i64 a1_3, .slice A1_4 l1_4.length c1_4] 36 (0, 0))) := ⟨by (with_reducible repeat (first | refine blk_drewN ?_ _ | refine blk_drew ?_ | refine blk_alloc ?_ _)); refine blk_far ?_ NB1_218.out _; (with_reducible repeat (first | refine blk_drewN ?_ _ | refine blk_drew ?_ | refine blk_alloc ?_ _)); exact BK1.out⟩
 have n2_ : Aside0 ((w3.setCell ⟨gb0, 1, none⟩ (.int .i64 (wrap64 (a0_1 + a1_1)))).heap[gb2]? = some (.cells #[.int .i64 0, .int .i64 0, .int .i64 0, .int .i64 0, .slice none 0 0] 36 (0, 0))) := ⟨by (with_reducible repeat (first | refine blk_drewN ?_ _ | refine blk_drew ?_ | refine blk_alloc ?_ _)); refine blk_far ?_ NB2_218.out _; (with_reducible repeat (first | refine blk_drewN ?_ _ | refine blk_drew ?_ | refine blk_alloc ?_ _)); exact BK2.out⟩
 have n3_ : Aside0 (Below w.heap.size w (w3.setCell ⟨gb0, 1, none⟩ (.int .i64 (wrap64 (a0_1 + a1_1))))) := ⟨Cz.bl (w := w)⟩
 (try clear BK0)
 (try clear BK1)
 (try clear BK2)
 (try clear HB)
 generalize (w3.setCell ⟨gb0, 1, none⟩ (.int .i64 (wrap64 (a0_1 + a1_1)))) = w4 at n0_ n1_ n2_ n3_ ⊢
 have BK0 := n0_
 have BK1 := n1_
 have BK2 := n2_
 have HB := n3_
 clear n0_ n1_ n2_ n3_
 replace BK0 := Aside0.mk (blk_drew BK0.out)
 replace BK1 := Aside0.mk (blk_drew BK1.out)
 replace BK2 := Aside0.mk (blk_drew BK2.out)
 replace HB := Aside0.mk (below_drew1 HB.out)
 refine start_ (n := 8) (S := fun w' => w'.cell? ⟨gb0, 0, none⟩ = some (.int .i64 a0_0) ∧ w'.cell? ⟨gb0, 1, none⟩ = some (.int .i64 (wrap64 (a0_1 + a1_1))) ∧ w'.cell? ⟨gb0, 2, none⟩ = some (.int .i64 a0_2) ∧ w'.cell? ⟨gb0, 3, none⟩ = some (.int .i64 a0_3) ∧ w'.cell? ⟨gb0, 4, none⟩ = some (.slice A0_4 l0_4.length c0_4) ∧ w'.cell? ⟨gb1, 0, none⟩ = some (.int .i64 a1_0) ∧ w'.cell? ⟨gb1, 1, none⟩ = some (.int .i64 a1_1) ∧ w'.cell? ⟨gb1, 2, none⟩ = some (.int .i64 a1_2) ∧ w'.cell? ⟨gb1, 3, none⟩ = some (.int .i64 a1_3) ∧ w'.cell? ⟨gb1, 4, none⟩ = some (.slice A1_4 l1_4.length c1_4)) (ds := [7]) #[false, false, false, false, false, false, false, false] (by kernel_rfl) rfl rfl ⟨(blk_cell BK0.out 0).trans rfl, (blk_cell BK0.out 1).trans rfl, (blk_cell BK0.out 2).trans rfl, (blk_cell BK0.out 3).trans rfl, (blk_cell BK0.out 4).trans rfl, (blk_cell BK1.out 0).trans rfl, (blk_cell BK1.out 1).trans rfl, (blk_cell BK1.out 2).trans rfl, (blk_cell BK1.out 3).trans rfl, (blk_cell BK1.out 4).trans rfl⟩ (fun hHeld => ?_); refine with_tabW extent_Join_p.tab4 extent_Join_p.bits4 (fun HT_ HW_ => ?_)
 generalize w4.drew = w5 at BK0 BK1 BK2 HB hHeld ⊢
 refine Cz.qP 0 17 HT_ ?_
 refine Cz.qP 3 20 HT_ ?_
 refine Cz.qT 1 18 HT_ HW_ hHeld ?_
 refine Cz.qT 4 21 HT_ HW_ hHeld ?_
 refine Cz.qO (N := some 19) 2 HT_ (fun K hK => ?_)
 refine Cz.gO Try.func72 #[.slice A0_4 l0_4.length c0_4] ?_
 with_reducible refine (bytes_Clone.calls _ _ l0_4 t222 _ ?side0 ?side1 A5.out).mono ?_
 (case side0 => exact Cz.cb HR0_4)
 (case side1 => exact HC0_4.out)
 rintro e w6 ⟨v0, rfl, ho0, hb⟩
 refine ⟨_, rfl, ?_⟩
 have HO0 := Aside0.mk (Kd.R_lower ho0 (below_size (Cz.bl (w := w))))
 replace BK0 := Cz.bk BK0 hb
 replace BK1 := Cz.bk BK1 hb
 replace BK2 := Cz.bk BK2 hb
 replace HB := Cz.bs (w := w) hb
 (try clear hb)
 (try clear hb2)
 (try clear hk)
 (try clear hi)
 (try clear ho0)
 refine hK.out _ _ ⟨(blk_cell BK0.out 0).trans rfl, (blk_cell BK0.out 1).trans rfl, (blk_cell BK0.out 2).trans rfl, (blk_cell BK0.out 3).trans rfl, (blk_cell BK0.out 4).trans rfl, (blk_cell BK1.out 0).trans rfl, (blk_cell BK1.out 1).trans rfl, (blk_cell BK1.out 2).trans rfl, (blk_cell BK1.out 3).trans rfl, (blk_cell BK1.out 4).trans rfl⟩ (fun hHeld => ?_)
 clear hK K
 refine Cz.nm (some 19) ?_
 refine Cz.qO (N := some 22) 5 HT_ (fun K hK => ?_)
 refine Kd.R_append_rows_step (Kd.int .u8) (w0 := w) w.heap.size (by rfl) (.tmp 19) (.tmp 21) 27 5 (.int .u8 0) 1 rfl Try.underlying27 info5 rfl (by decide) (by omega) v0 t222 l1_4 _ _ _ (fun _ => True) (fun _ => False) rfl rfl ?aO ?aR (fun _ _ h => h) (fun _ h => h.elim) ?aF ?aB ?aS ?aL ?_
 (case aR => exact Cz.cb HR1_4)
 (case aB => exact (Cz.bl (w := w)))
 (case aF => exact (fun _ _ => trivial))
 (case aO => exact (by (with_reducible repeat (first | apply Kd.R_alloc | apply Kd.R_drewN | apply Kd.R_drew)); exact HO0.out))
 (case aS => exact (below_size (Cz.bl (w := w))))
 (case aL => have := LMc0.out; omega)
 intro v226 w9 ho hb hg hat
 rw [← Ny0.out] at ho
 have HO1 := Aside0.mk (ho)
 replace BK0 := Cz.bw BK0 hg (Kd.R_ne HO0.out BK0.out (by decide))
 replace BK1 := Cz.bw BK1 hg (Kd.R_ne HO0.out BK1.out (by decide))
 replace BK2 := Cz.bw BK2 hg (Kd.R_ne HO0.out BK2.out (by decide))
 replace HB := Aside0.mk (hb)
 clear HO0
 clear ho hb hg hat
 obtain ⟨Ao0, co0, eo0⟩ := Kd.R_slice HO1.out
 (first | subst eo0 | (injection eo0 with f0_ f1_ f2_; have f3_ := f0_.symm; have f4_ := f2_.symm; clear f0_ f1_ f2_; subst f3_; subst f4_))
 refine hK.out _ _ ⟨(blk_cell BK0.out 0).trans rfl, (blk_cell BK0.out 1).trans rfl, (blk_cell BK0.out 2).trans rfl, (blk_cell BK0.out 3).trans rfl, (blk_cell BK0.out 4).trans rfl, (blk_cell BK1.out 0).trans rfl, (blk_cell BK1.out 1).trans rfl, (blk_cell BK1.out 2).trans rfl, (blk_cell BK1.out 3).trans rfl, (blk_cell BK1.out 4).trans rfl⟩ (fun hHeld => ?_)
 clear hK K
 refine Cz.nm (some 22) ?_
 refine Cz.qP 6 23 HT_ ?_
 refine last_ (i := 7) (N := none) #[true, true, true, true, true, true, true, true] rfl rfl (one_of HT_.out (by kernel_rfl)) (by decide) (fun K hK => ?_)
 have hs0 : w9.cell? ⟨gb0, 4, none⟩ = some (.slice A0_4 l0_4.length c0_4) := (blk_cell BK0.out 4).trans rfl
 have hfs0 := blk_frozen BK0.out 4
 have hns0_1 := NB1_218.out
 have hns0_2 := NB2_218.out
 have hms0_1 := NB0_219.out
 have hms0_2 := NB0_220.out
 refine skip_ (w1 := ?_) (by rfl) rfl ?_ ?_
 rotate_left
 ·go_simp
  rfl
 refine hK.out _ _ ?_
 clear hK K
 refine done_ (done_of HT_.out (by kernel_rfl)) ?_
 have z4_0 : w9.cell? ⟨gb0, 0, none⟩ = some (.int .i64 a0_0) := (blk_cell BK0.out 0).trans rfl
 have z4_1 : w9.cell? ⟨gb0, 1, none⟩ = some (.int .i64 (wrap64 (a0_1 + a1_1))) := (blk_cell BK0.out 1).trans rfl
 have z4_2 : w9.cell? ⟨gb0, 2, none⟩ = some (.int .i64 a0_2) := (blk_cell BK0.out 2).trans rfl
 have z4_3 : w9.cell? ⟨gb0, 3, none⟩ = some (.int .i64 a0_3) := (blk_cell BK0.out 3).trans rfl
 have z4_4 : w9.cell? ⟨gb0, 4, none⟩ = some (.slice A0_4 l0_4.length c0_4) := (blk_cell BK0.out 4).trans rfl
 have y5_0 := blk_frozen BK0.out 0
 have y5_1 := blk_frozen BK0.out 1
 have y5_2 := blk_frozen BK0.out 2
 have y5_3 := blk_frozen BK0.out 3
 have y5_4 := blk_frozen BK0.out 4
 obtain ⟨z5_0, z5_1, z5_2, z5_3, z5_4, y6_0, y6_1, y6_2, y6_3, y6_4⟩ := Cz.d5 BK2
 try go_wp2
 refine bodyPost_ret (results_ct rfl _ _ gb2 36 #[.int .i64 a0_0, .int .i64 (wrap64 (a0_1 + a1_1)), .int .i64 a0_2, .int .i64 a0_3, .slice Ao0 y0.length co0] (0, 0) _ rfl (by (with_reducible repeat (first | refine blk_drewN ?_ _ | refine blk_drew ?_ | refine blk_alloc ?_ _)); apply Cz.a5; refine blk_far ?_ NB2_218.out _; (with_reducible repeat (first | refine blk_drewN ?_ _ | refine blk_drew ?_ | refine blk_alloc ?_ _)); exact BK2.out) Try.underlying36 rfl (by kernel_rfl)) rfl ?_
 exact ⟨_, Cz.er, by (with_reducible repeat (first | apply Kd.R_alloc | apply Kd.R_drewN | apply Kd.R_drew)); exact Kd.R_mono (Cz.rf (Cz.rf (Cz.rf (Cz.rf (Cz.rf (Kd.R_far (p := ⟨gb0, 4, none⟩) (Kd.R_types (Kd.R_types HO1.out BK0.out (by decide)) BK2.out (by decide)) (fun _ hk => hk.1.2) (.slice Ao0 y0.length co0))))))) (fun _ hk => trivial), Cz.bl (w := w)⟩
def extent_Join.f (a0_0 a0_1 a0_2 a0_3 : Int) (l0_4 : List Int) (a1_0 a1_1 a1_2 a1_3 : Int) (l1_4 : List Int) : Option (Int × Int × Int × Int × List Int × Int) := some (Pl.joinS a0_0 a0_1 a0_2 a0_3 l0_4 a1_0 a1_1 a1_2 a1_3 l1_4)
theorem extent_Join.closes {a0_0 a0_1 a0_2 a0_3 : Int} {l0_4 : List Int} {a1_0 a1_1 a1_2 a1_3 : Int} {l1_4 : List Int} {r : Int × Int × Int × Int × List Int × Int} (h : extent_Join.f a0_0 a0_1 a0_2 a0_3 l0_4 a1_0 a1_1 a1_2 a1_3 l1_4 = some r) : extent_Join_p.f a0_0 a0_1 a0_2 a0_3 l0_4 a1_0 a1_1 a1_2 a1_3 l1_4 = some r := by
 rw [← h]
 unfold extent_Join_p.f extent_Join.f extent_Joins.f
 rw [Option.bind_some, Pl.joinS]
 by_cases h0 : Pl.joinsB a0_0 a0_1 a0_2 a0_3 l0_4 a1_0 a1_1 a1_2 a1_3 l1_4 = true
 ·obtain ⟨ho, ho', -, -, -⟩ := Pl.joinsB_iff.1 h0
  have q1 := Pl.extOk_len ho
  have q2 := Pl.extOk_len ho'
  have q3 := Pl.extOk_iff.1 ho
  have q4 := Pl.extOk_iff.1 ho'
  rw [if_pos h0, if_pos h0]
  unfold bytes_Clone.f
  rw [if_pos (by omega), Option.bind_some, if_pos (by omega), show wrap64 (a0_1 + a1_1) = a0_1 + a1_1 by unfold wrap64; omega]
 rw [if_neg h0, if_neg h0]
theorem extent_Join.calls (a0_0 : Int) (a0_1 : Int) (a0_2 : Int) (a0_3 : Int) (A0_4 : Option Addr) (c0_4 : Nat) (l0_4 : List Int) (a1_0 : Int) (a1_1 : Int) (a1_2 : Int) (a1_3 : Int) (A1_4 : Option Addr) (c1_4 : Nat) (l1_4 : List Int) (r1 : Int) (r2 : Int) (r3 : Int) (r4 : Int) (r5 : List Int) (r6 : Int) (w : World) (hr0_4 : Kd.C (Kd.int .u8) w A0_4 l0_4.length l0_4) (hc0_4 : l0_4.length ≤ c0_4) (hr1_4 : Kd.C (Kd.int .u8) w A1_4 l1_4.length l1_4) (hc1_4 : l1_4.length ≤ c1_4) (h : extent_Join.f a0_0 a0_1 a0_2 a0_3 l0_4 a1_0 a1_1 a1_2 a1_3 l1_4 = some (r1, r2, r3, r4, r5, r6)) :
  Calls Try.prog 81 #[.agg #[.int .i64 a0_0, .int .i64 a0_1, .int .i64 a0_2, .int .i64 a0_3, .slice A0_4 l0_4.length c0_4], .agg #[.int .i64 a1_0, .int .i64 a1_1, .int .i64 a1_2, .int .i64 a1_3, .slice A1_4 l1_4.length c1_4]] w fun e w' => ∃ v4_ : Value, e = .returned (.tuple #[.agg #[.int .i64 r1, .int .i64 r2, .int .i64 r3, .int .i64 r4, v4_], .int .i64 r6]) ∧ Kd.R (Kd.int .u8) 5 w' w.heap.size (fun _ => True) v4_ r5 ∧ Below w.heap.size w w' :=
 extent_Join_p.calls a0_0 a0_1 a0_2 a0_3 A0_4 c0_4 l0_4 a1_0 a1_1 a1_2 a1_3 A1_4 c1_4 l1_4 r1 r2 r3 r4 r5 r6 w hr0_4 hc0_4 hr1_4 hc1_4 (extent_Join.closes h)
theorem nil_or_last {α : Type} (l : List α) : l = [] ∨ ∃ m x, l = m ++ [x] := by
 cases h : l.reverse with
 | nil => exact .inl (List.reverse_eq_nil_iff.1 h)
 | cons x m => exact .inr ⟨m.reverse, x, by rw [← List.reverse_reverse l, h, List.reverse_cons]⟩
theorem blk_apart {α β : Type} {dk : Kd α} {dk' : Kd β} {e e' base base' : Nat} {w : World} {ok ok' : Nat → Prop} {v v' : Value} {xs : List α} {ys : List β} (h : dk.R e w base ok v xs) (h' : dk'.R e' w base' ok' v' ys) (ht : ∀ q, q ∈ e :: dk.E → q ≠ e') : dk.R e w base (fun k_ => ok k_ ∧ some k_ ≠ v'.ownBlock) v xs :=
 Kd.R_mono (Kd.R_bound h) (fun k_ hk => ⟨hk.1, fun he => by
  obtain ⟨_, _, _, q, hq, c1, h1⟩ := hk
  obtain ⟨c2, h2⟩ := Kd.R_typed h' k_ he.symm
  rw [h1] at h2
  injection h2 with h2
  injection h2 with _ h2
  exact ht q hq h2⟩)
def blkKind (k : Int) (j : Nat) : Int := if 4 - k < j then 4 - k else 0
set_option maxHeartbeats 4000000 in
set_option maxRecDepth 2000000 in
theorem stream_reader_blocks.calls (gr b0 : Nat) (B P T many : Int) (done : Bool) (v vd : Value) (L : List Pl.Ext) (k a n : Int) (d : List Int) (x y z : Int) (w : World)
  (hgr : w.heap[gr]? = some (.cells #[.int .i64 B, .int .i64 P, .int .i64 T, v, .int .i64 many, .bool done] 62 (0, 0))) (b1 : b0 ≤ gr) (hk : 2 ≤ k ∧ k ≤ 4) (ha : 0 ≤ a ∧ 1 ≤ n ∧ n ≤ 64 - a) (hE : ∀ u ∈ L, Pl.eOk u = true) (hn : L.length ≤ 1000000)
  (hL : Kd.R k36 36 w b0 (fun _ => True) v (L.map ofE)) (hd : Kd.R (Kd.int .u8) 5 w b0 (fun _ => True) vd d) :
  Calls Try.prog 65 #[.pointer (some ⟨gr, 0, none⟩), .agg #[.int .i64 k, .int .i64 a, .int .i64 n, vd, .int .i64 x, .int .i64 y, .int .i64 z]] w fun e w' => ((∃ M, Pl.stepS B L (k, a, n, d, x, y, z) = some M ∧ e = .returned (.bool true) ∧ ∃ v1, w'.heap[gr]? = some (.cells #[.int .i64 B, .int .i64 P, .int .i64 T, v1, .int .i64 many, .bool done] 62 (0, 0)) ∧ Kd.R k36 36 w' b0 (fun _ => True) v1 (M.map ofE)) ∨ (Pl.stepS B L (k, a, n, d, x, y, z) = none ∧ e = .returned (.bool false))) ∧ Below b0 w w' := by
 have GR := Aside0.mk hgr
 have BL := Aside0.mk hL
 have BD := Aside0.mk hd
 have B1 := Aside0.mk b1
 have KK := Aside0.mk hk
 have AA := Aside0.mk ha
 have EE := Aside0.mk hE
 have NN := Aside0.mk hn
 have HB := Aside0.mk (Below.refl b0 w)
 have HS0 := Aside0.mk (show b0 ≤ w.heap.size from Nat.le_of_lt (Nat.lt_of_le_of_lt B1.out (blk_lt GR.out)))
 obtain ⟨Ad, cd, ed⟩ := Kd.R_slice hd
 subst ed
 clear hgr hL hd b1 hk ha hE hn
 go_enter Try.func65, Try.ntmps65
 go_wp2_with (first | ((with_reducible refine gate_dst (N := 3) rfl ?_); refine Cz.bx (N := 3) #[(.int .i64 k : Value), .int .i64 a, .int .i64 n, .slice Ad d.length cd, .int .i64 x, .int .i64 y, .int .i64 z] 38 ?_; intro gf hg w1 hbox hb; clear hg; have m_GR := Aside0.mk (blk_below GR.out hb); have m_BL := Aside0.mk (Kd.R_below BL.out hb); have m_BD := Aside0.mk (Kd.R_below BD.out hb); have m_HB := Aside0.mk (below_then HB.out (Nat.le_trans HS0.out HB.out.size) hb); clear GR BL BD HB; have GR := m_GR; have BL := m_BL; have BD := m_BD; have HB := m_HB; clear m_GR m_BL m_BD m_HB; have BF := Aside0.mk hbox; clear hbox hb; obtain ⟨hcf0, hcf1, hcf2, hcf3, hcf4, hcf5, hcf6, hff0, hff1, hff2, hff3, hff4, hff5, hff6⟩ := Cz.d7 BF) | ((with_reducible refine gate_dst (N := 5) rfl ?_); refine Cz.bx (N := 5) #[.int .i64 0, .int .i64 0, .int .i64 0, .int .i64 0, .slice none 0 0] 36 ?_; intro gx hg w2 hbox hb; clear hcf0 hff0 hcf1 hff1 hcf2 hff2 hcf3 hff3 hcf4 hff4 hcf5 hff5 hcf6 hff6; have GX := Aside0.mk (Nat.le_trans (Nat.le_trans HS0.out HB.out.size) (Nat.le_of_eq hg.symm)); have BE := Aside0.mk (Kd.R_below (Kd.R_elderB BL.out gx (Nat.le_of_eq hg.symm)) hb); have m_BF := Aside0.mk (blk_below BF.out hb); have m_GR := Aside0.mk (blk_below GR.out hb); have m_BD := Aside0.mk (Kd.R_below BD.out hb); have m_HB := Aside0.mk (below_then HB.out (Nat.le_trans HS0.out HB.out.size) hb); clear BF GR BD HB; have BF := m_BF; have GR := m_GR; have BD := m_BD; have HB := m_HB; clear m_BF m_GR m_BD m_HB; clear BL hg; have BL := BE; clear BE; have BX := Aside0.mk hbox; clear hbox hb; obtain ⟨hcx0, hcx1, hcx2, hcx3, hcx4, hfx0, hfx1, hfx2, hfx3, hfx4⟩ := Cz.d5 BX) | (go_at_call 63; have q_ : ∀ k_, k_ ≠ gx → (((((w2.setCell ⟨gx, 0, none⟩ (.int .i64 a)).setCell ⟨gx, 1, none⟩ (.int .i64 n)).setCell ⟨gx, 2, none⟩ (.int .i64 0)).setCell ⟨gx, 3, none⟩ (.int .i64 0)).setCell ⟨gx, 4, none⟩ (.slice Ad d.length cd)).heap[k_]? = w2.heap[k_]? := fun k_ hk => (Below.heap_setCell _ ⟨gx, 4, none⟩ _ k_ hk).trans ((Below.heap_setCell _ ⟨gx, 3, none⟩ _ k_ hk).trans ((Below.heap_setCell _ ⟨gx, 2, none⟩ _ k_ hk).trans ((Below.heap_setCell _ ⟨gx, 1, none⟩ _ k_ hk).trans ((Below.heap_setCell _ ⟨gx, 0, none⟩ _ k_ hk).trans (rfl))))); have NR := Aside0.mk (show gr ≠ gx from blk_ne GR.out BX.out (by decide)); have NF := Aside0.mk (show gf ≠ gx from blk_ne BF.out BX.out (by decide)); have NG := Aside0.mk (show gr ≠ gf from blk_ne GR.out BF.out (by decide)); have m1 : Aside0 ((((((w2.setCell ⟨gx, 0, none⟩ (.int .i64 a)).setCell ⟨gx, 1, none⟩ (.int .i64 n)).setCell ⟨gx, 2, none⟩ (.int .i64 0)).setCell ⟨gx, 3, none⟩ (.int .i64 0)).setCell ⟨gx, 4, none⟩ (.slice Ad d.length cd)).heap[gx]? = some (.cells #[.int .i64 a, .int .i64 n, .int .i64 0, .int .i64 0, .slice Ad d.length cd] 36 (0, 0))) := ⟨blk_put (blk_put (blk_put (blk_put (blk_put BX.out 0 _ rfl) 1 _ rfl) 2 _ rfl) 3 _ rfl) 4 _ rfl⟩; have m2 : Aside0 ((((((w2.setCell ⟨gx, 0, none⟩ (.int .i64 a)).setCell ⟨gx, 1, none⟩ (.int .i64 n)).setCell ⟨gx, 2, none⟩ (.int .i64 0)).setCell ⟨gx, 3, none⟩ (.int .i64 0)).setCell ⟨gx, 4, none⟩ (.slice Ad d.length cd)).heap[gr]? = some (.cells #[.int .i64 B, .int .i64 P, .int .i64 T, v, .int .i64 many, .bool done] 62 (0, 0))) := ⟨(q_ _ NR.out).trans GR.out⟩; have m3 : Aside0 ((((((w2.setCell ⟨gx, 0, none⟩ (.int .i64 a)).setCell ⟨gx, 1, none⟩ (.int .i64 n)).setCell ⟨gx, 2, none⟩ (.int .i64 0)).setCell ⟨gx, 3, none⟩ (.int .i64 0)).setCell ⟨gx, 4, none⟩ (.slice Ad d.length cd)).heap[gf]? = some (.cells #[(.int .i64 k : Value), .int .i64 a, .int .i64 n, .slice Ad d.length cd, .int .i64 x, .int .i64 y, .int .i64 z] 38 (0, 0))) := ⟨(q_ _ NF.out).trans BF.out⟩; have m4 : Aside0 (Kd.R k36 36 (((((w2.setCell ⟨gx, 0, none⟩ (.int .i64 a)).setCell ⟨gx, 1, none⟩ (.int .i64 n)).setCell ⟨gx, 2, none⟩ (.int .i64 0)).setCell ⟨gx, 3, none⟩ (.int .i64 0)).setCell ⟨gx, 4, none⟩ (.slice Ad d.length cd)) b0 (fun k_ => True ∧ k_ ≠ gx) v (L.map ofE)) := ⟨Kd.R_step BL.out (fun k_ hk _ => q_ k_ hk.2)⟩; have m5 : Aside0 (Kd.R (Kd.int .u8) 5 (((((w2.setCell ⟨gx, 0, none⟩ (.int .i64 a)).setCell ⟨gx, 1, none⟩ (.int .i64 n)).setCell ⟨gx, 2, none⟩ (.int .i64 0)).setCell ⟨gx, 3, none⟩ (.int .i64 0)).setCell ⟨gx, 4, none⟩ (.slice Ad d.length cd)) b0 (fun _ => True) (.slice Ad d.length cd) d) := ⟨Kd.R_mono (Kd.R_step (Kd.R_types BD.out BX.out (by decide)) (fun k_ hk _ => q_ k_ hk.2)) (fun _ _ => trivial)⟩; have m6 : Aside0 (Below b0 w (((((w2.setCell ⟨gx, 0, none⟩ (.int .i64 a)).setCell ⟨gx, 1, none⟩ (.int .i64 n)).setCell ⟨gx, 2, none⟩ (.int .i64 0)).setCell ⟨gx, 3, none⟩ (.int .i64 0)).setCell ⟨gx, 4, none⟩ (.slice Ad d.length cd))) := ⟨((((HB.out.setCell (p := ⟨gx, 0, none⟩) GX.out _).setCell (p := ⟨gx, 1, none⟩) GX.out _).setCell (p := ⟨gx, 2, none⟩) GX.out _).setCell (p := ⟨gx, 3, none⟩) GX.out _).setCell (p := ⟨gx, 4, none⟩) GX.out _⟩; generalize (((((w2.setCell ⟨gx, 0, none⟩ (.int .i64 a)).setCell ⟨gx, 1, none⟩ (.int .i64 n)).setCell ⟨gx, 2, none⟩ (.int .i64 0)).setCell ⟨gx, 3, none⟩ (.int .i64 0)).setCell ⟨gx, 4, none⟩ (.slice Ad d.length cd)) = w3 at m1 m2 m3 m4 m5 m6 ⊢; clear q_ GR BF BL BD HB BX; clear hcx0 hfx0 hcx1 hfx1 hcx2 hfx2 hcx3 hfx3 hcx4 hfx4; have BX := m1; have GR := m2; have BF := m3; have BL := m4; have BD := m5; have HB := m6; clear m1 m2 m3 m4 m5 m6; refine (stream_kinds.calls _).mono ?_; rintro e' w4 ⟨rfl, hb⟩; have m_BF := Aside0.mk (blk_below BF.out hb); have m_BX := Aside0.mk (blk_below BX.out hb); have m_GR := Aside0.mk (blk_below GR.out hb); have m_BL := Aside0.mk (Kd.R_below BL.out hb); have m_BD := Aside0.mk (Kd.R_below BD.out hb); have m_HB := Aside0.mk (below_then HB.out (Nat.le_trans HS0.out HB.out.size) hb); clear BF BX GR BL BD HB; have BF := m_BF; have BX := m_BX; have GR := m_GR; have BL := m_BL; have BD := m_BD; have HB := m_HB; clear m_BF m_BX m_GR m_BL m_BD m_HB; clear hb))
 go_loopw [20] (fun i wr => ∃ j : Nat, j ≤ 3 ∧ i = .int .i64 (j : Int) ∧ Aside0 (wr.heap[gr]? = some (.cells #[.int .i64 B, .int .i64 P, .int .i64 T, v, .int .i64 many, .bool done] 62 (0, 0))) ∧ Aside0 (Kd.R k36 36 wr b0 (fun k_ => True ∧ k_ ≠ gx) v (L.map ofE)) ∧ Aside0 (Kd.R (Kd.int .u8) 5 wr b0 (fun _ => True) (.slice Ad d.length cd) d) ∧ Aside0 (wr.heap[gf]? = some (.cells #[(.int .i64 k : Value), .int .i64 a, .int .i64 n, .slice Ad d.length cd, .int .i64 x, .int .i64 y, .int .i64 z] 38 (0, 0))) ∧ Aside0 (wr.heap[gx]? = some (.cells #[.int .i64 a, .int .i64 n, .int .i64 (blkKind k j), .int .i64 0, .slice Ad d.length cd] 36 (0, 0))) ∧ Aside0 (Below b0 w wr)) (fun i _ => 3 - (intOf i).toNat)
 case atStart => exact ⟨0, by decide, rfl, GR, BL, BD, BF, ⟨by rw [show blkKind k 0 = 0 from if_neg (by have := KK.out; omega)]; exact BX.out⟩, HB⟩
 case round =>
  clear GR BL BD BF BX HB
  obtain ⟨j, hj, rfl, GR, BL, BD, BF, BX, HB⟩ := hrel
  have hcf0 : wr.cell? ⟨gf, 0, none⟩ = some (.int .i64 k) := ((blk_cell BF.out 0).trans rfl)
  have hcx2 : wr.cell? ⟨gx, 2, none⟩ = some (.int .i64 (blkKind k j)) := ((blk_cell BX.out 2).trans rfl)
  have hfx2 := blk_frozen BX.out 2
  by_cases hlt : j < 3
  ·obtain rfl | rfl | rfl : j = 0 ∨ j = 1 ∨ j = 2 := by omega
   ·have hx1 : ∀ w : World, (Instr.index 89 (.agg #[.int .i64 4, .int .i64 3, .int .i64 2]) (.int .i64 ((0 : Nat) : Int))).run Try.prog w = .ok (.int .i64 4) w := fun _ => by kernel_rfl
    have hx2 : ∀ w : World, (Instr.index 89 (.agg #[.int .i64 4, .int .i64 3, .int .i64 2]) (.int .i64 0)).run Try.prog w = .ok (.int .i64 4) w := fun _ => by kernel_rfl
    by_cases e : (4 : Int) = k
    ·have e1 : ((4 : Int) == k) = true := beq_iff_eq.mpr e
     have E4 := Aside0.mk e
     clear e
     go_wp2
     go_roundw
     case rel =>
      have q_ : ∀ k_, k_ ≠ gx → ((wr.setCell ⟨gx, 2, none⟩ (.int .i64 0))).heap[k_]? = wr.heap[k_]? := fun k_ hk => Below.heap_setCell _ ⟨gx, 2, none⟩ _ k_ hk
      exact ⟨1, by decide, rfl, ⟨(q_ _ NR.out).trans GR.out⟩, ⟨Kd.R_step BL.out (fun k_ hk _ => q_ k_ hk.2)⟩, ⟨Kd.R_mono (Kd.R_step (Kd.R_types BD.out BX.out (by decide)) (fun k_ hk _ => q_ k_ hk.2)) (fun _ _ => trivial)⟩, ⟨(q_ _ NF.out).trans BF.out⟩, ⟨by rw [show blkKind k 1 = 0 from (if_pos (by have := E4.out; omega)).trans (by have := E4.out; omega)]; exact blk_put BX.out 2 _ rfl⟩, ⟨HB.out.setCell (p := ⟨gx, 2, none⟩) GX.out _⟩⟩
     case measure => simp [intOf]
    have e1 : ((4 : Int) == k) = false := beq_eq_false_iff_ne.mpr e
    go_wp2
    go_roundw
    case rel => exact ⟨1, by decide, rfl, GR, BL, BD, BF, ⟨by rw [show blkKind k 1 = blkKind k 0 from by have := KK.out; unfold blkKind; split <;> split <;> omega]; exact BX.out⟩, HB⟩
    case measure => simp [intOf]
   ·have hx1 : ∀ w : World, (Instr.index 89 (.agg #[.int .i64 4, .int .i64 3, .int .i64 2]) (.int .i64 ((1 : Nat) : Int))).run Try.prog w = .ok (.int .i64 3) w := fun _ => by kernel_rfl
    have hx2 : ∀ w : World, (Instr.index 89 (.agg #[.int .i64 4, .int .i64 3, .int .i64 2]) (.int .i64 1)).run Try.prog w = .ok (.int .i64 3) w := fun _ => by kernel_rfl
    by_cases e : (3 : Int) = k
    ·have e1 : ((3 : Int) == k) = true := beq_iff_eq.mpr e
     have E4 := Aside0.mk e
     clear e
     go_wp2
     go_roundw
     case rel =>
      have q_ : ∀ k_, k_ ≠ gx → ((wr.setCell ⟨gx, 2, none⟩ (.int .i64 1))).heap[k_]? = wr.heap[k_]? := fun k_ hk => Below.heap_setCell _ ⟨gx, 2, none⟩ _ k_ hk
      exact ⟨2, by decide, rfl, ⟨(q_ _ NR.out).trans GR.out⟩, ⟨Kd.R_step BL.out (fun k_ hk _ => q_ k_ hk.2)⟩, ⟨Kd.R_mono (Kd.R_step (Kd.R_types BD.out BX.out (by decide)) (fun k_ hk _ => q_ k_ hk.2)) (fun _ _ => trivial)⟩, ⟨(q_ _ NF.out).trans BF.out⟩, ⟨by rw [show blkKind k 2 = 1 from (if_pos (by have := E4.out; omega)).trans (by have := E4.out; omega)]; exact blk_put BX.out 2 _ rfl⟩, ⟨HB.out.setCell (p := ⟨gx, 2, none⟩) GX.out _⟩⟩
     case measure => simp [intOf]
    have e1 : ((3 : Int) == k) = false := beq_eq_false_iff_ne.mpr e
    go_wp2
    go_roundw
    case rel => exact ⟨2, by decide, rfl, GR, BL, BD, BF, ⟨by rw [show blkKind k 2 = blkKind k 1 from by have := KK.out; unfold blkKind; split <;> split <;> omega]; exact BX.out⟩, HB⟩
    case measure => simp [intOf]
   ·have hx1 : ∀ w : World, (Instr.index 89 (.agg #[.int .i64 4, .int .i64 3, .int .i64 2]) (.int .i64 ((2 : Nat) : Int))).run Try.prog w = .ok (.int .i64 2) w := fun _ => by kernel_rfl
    have hx2 : ∀ w : World, (Instr.index 89 (.agg #[.int .i64 4, .int .i64 3, .int .i64 2]) (.int .i64 2)).run Try.prog w = .ok (.int .i64 2) w := fun _ => by kernel_rfl
    by_cases e : (2 : Int) = k
    ·have e1 : ((2 : Int) == k) = true := beq_iff_eq.mpr e
     have E4 := Aside0.mk e
     clear e
     go_wp2
     go_roundw
     case rel =>
      have q_ : ∀ k_, k_ ≠ gx → ((wr.setCell ⟨gx, 2, none⟩ (.int .i64 2))).heap[k_]? = wr.heap[k_]? := fun k_ hk => Below.heap_setCell _ ⟨gx, 2, none⟩ _ k_ hk
      exact ⟨3, by decide, rfl, ⟨(q_ _ NR.out).trans GR.out⟩, ⟨Kd.R_step BL.out (fun k_ hk _ => q_ k_ hk.2)⟩, ⟨Kd.R_mono (Kd.R_step (Kd.R_types BD.out BX.out (by decide)) (fun k_ hk _ => q_ k_ hk.2)) (fun _ _ => trivial)⟩, ⟨(q_ _ NF.out).trans BF.out⟩, ⟨by rw [show blkKind k 3 = 2 from (if_pos (by have := E4.out; omega)).trans (by have := E4.out; omega)]; exact blk_put BX.out 2 _ rfl⟩, ⟨HB.out.setCell (p := ⟨gx, 2, none⟩) GX.out _⟩⟩
     case measure => simp [intOf]
    have e1 : ((2 : Int) == k) = false := beq_eq_false_iff_ne.mpr e
    go_wp2
    go_roundw
    case rel => exact ⟨3, by decide, rfl, GR, BL, BD, BF, ⟨by rw [show blkKind k 3 = blkKind k 2 from by have := KK.out; unfold blkKind; split <;> split <;> omega]; exact BX.out⟩, HB⟩
    case measure => simp [intOf]
  obtain rfl : j = 3 := by omega
  have bx : Aside0 (wr.heap[gx]? = some (.cells #[.int .i64 a, .int .i64 n, .int .i64 (4 - k), .int .i64 0, .slice Ad d.length cd] 36 (0, 0))) := ⟨by rw [show 4 - k = blkKind k 3 from ((if_pos (by have := KK.out; omega)).symm)]; exact BX.out⟩
  clear hcf0 hcx2 hfx2 BX
  have BX := bx
  clear bx
  go_wp2
  have m_GR := Aside0.mk (blk_drew GR.out)
  have m_BL := Aside0.mk (Kd.R_drew BL.out)
  have m_BD := Aside0.mk (Kd.R_drew BD.out)
  have m_BF := Aside0.mk (blk_drew BF.out)
  have m_BX := Aside0.mk (blk_drew BX.out)
  have m_HB := Aside0.mk (below_drew HB.out)
  clear GR BL BD BF BX HB
  have GR := m_GR
  have BL := m_BL
  have BD := m_BD
  have BF := m_BF
  have BX := m_BX
  have HB := m_HB
  clear m_GR m_BL m_BD m_BF m_BX m_HB
  refine start_ (n := 11) (S := fun w' => w'.cell? ⟨gf, 1, none⟩ = some (.int .i64 a) ∧ w'.cell? ⟨gf, 2, none⟩ = some (.int .i64 n) ∧ w'.cell? ⟨gr, 0, none⟩ = some (.int .i64 B)) (ds := []) #[false, false, false, false, false, false, false, false, false, false, false] (by kernel_rfl) rfl rfl ⟨((blk_cell BF.out 1).trans rfl), ((blk_cell BF.out 2).trans rfl), ((blk_cell GR.out 0).trans rfl)⟩ (fun hHeld => ?_)
  generalize wr.drew = w5 at GR BL BD BF BX HB hHeld ⊢
  refine Cz.rP 0 31 ?_
  refine Cz.rP 2 33 ?_
  refine Cz.rP 5 36 ?_
  refine Cz.rP 6 37 ?_
  refine Cz.rP 7 38 ?_
  refine Cz.rP 8 39 ?_
  refine Cz.rT 1 32 hHeld ?_
  refine Cz.rT 3 34 hHeld ?_
  refine Cz.rP 4 35 ?_
  refine Cz.rT 9 40 hHeld ?_
  refine Cz.rP 10 41 ?_
  refine done_ (by kernel_rfl) ?_
  have hw1 : wrap64 (a + n) = a + n := by have := AA.out; unfold wrap64; omega
  by_cases c1 : B < a + n
  ·
   have c2 : decide (B < wrap64 (a + n)) = true := by rw [hw1]; exact decide_eq_true c1
   have SN := Aside0.mk (show Pl.stepS B L (k, a, n, d, x, y, z) = none from if_pos c1)
   clear c1 hw1
   rw [c2]
   go_wp2
   refine bodyPost_ret (results_tmp rfl _ _ _) rfl ?_
   exact ⟨.inr ⟨SN.out, rfl⟩, HB.out⟩
  ·
   have c2 : decide (B < wrap64 (a + n)) = false := by rw [hw1]; exact decide_eq_false c1
   have C1 := Aside0.mk c1
   clear c1 hw1
   rw [c2]
   obtain ⟨Av, cv, ev⟩ := Kd.R_slice BL.out
   rw [List.length_map] at ev
   subst ev
   have hcr0 : w5.cell? ⟨gr, 3, none⟩ = some (.slice Av L.length cv) := ((blk_cell GR.out 3).trans rfl)
   rcases nil_or_last L with rfl | ⟨M, u, rfl⟩
   ·have SN := Aside0.mk (show Pl.stepS B [] (k, a, n, d, x, y, z) = some [Pl.exOf (k, a, n, d, x, y, z)] from (Pl.stepS_nil _ _).trans (if_neg C1.out))
    (try clear c2)
    clear C1
    go_wp2
    clear hcr0
    have m_GR := Aside0.mk (blk_drew GR.out)
    have m_BL := Aside0.mk (Kd.R_drew BL.out)
    have m_BD := Aside0.mk (Kd.R_drew BD.out)
    have m_BF := Aside0.mk (blk_drew BF.out)
    have m_BX := Aside0.mk (blk_drew BX.out)
    have m_HB := Aside0.mk (below_drew HB.out)
    clear GR BL BD BF BX HB
    have GR := m_GR
    have BL := m_BL
    have BD := m_BD
    have BF := m_BF
    have BX := m_BX
    have HB := m_HB
    clear m_GR m_BL m_BD m_BF m_BX m_HB
    refine start_ (n := 13) (S := fun w' => w'.cell? ⟨gx, 0, none⟩ = some (.int .i64 a) ∧ w'.cell? ⟨gx, 1, none⟩ = some (.int .i64 n) ∧ w'.cell? ⟨gx, 2, none⟩ = some (.int .i64 (4 - k)) ∧ w'.cell? ⟨gx, 3, none⟩ = some (.int .i64 0) ∧ w'.cell? ⟨gx, 4, none⟩ = some (.slice Ad d.length cd) ∧ w'.cell? ⟨gr, 3, none⟩ = some (.slice Av ([] : List Pl.Ext).length cv)) (ds := [12]) #[false, false, false, false, false, false, false, false, false, false, false, false, false] (by kernel_rfl) rfl rfl ⟨((blk_cell (BX.out) 0).trans rfl), ((blk_cell (BX.out) 1).trans rfl), ((blk_cell (BX.out) 2).trans rfl), ((blk_cell (BX.out) 3).trans rfl), ((blk_cell (BX.out) 4).trans rfl), ((blk_cell GR.out 3).trans rfl)⟩ (fun hHeld => ?_)
    generalize w5.drew = w6 at GR BL BD BF BX HB hHeld ⊢
    refine Cz.rP 0 50 ?_
    refine Cz.rP 1 51 ?_
    refine Cz.rP 2 52 ?_
    refine Cz.rP 3 53 ?_
    refine Cz.rP 4 54 ?_
    refine Cz.rT 5 55 hHeld ?_
    refine Cz.rT 6 56 hHeld ?_
    refine Cz.rO (N := some 57) 7 (fun K hK => ?_)
    refine value_ (w1 := ?_) (v := ?_) (by rfl) rfl ?_ ?_
    rotate_left 2
    ·go_simp
     constructor
     ·rfl
     ·rfl
    refine hK.out _ _ ⟨((blk_cell (blk_alloc BX.out _) 0).trans rfl), ((blk_cell (blk_alloc BX.out _) 1).trans rfl), ((blk_cell (blk_alloc BX.out _) 2).trans rfl), ((blk_cell (blk_alloc BX.out _) 3).trans rfl), ((blk_cell (blk_alloc BX.out _) 4).trans rfl), ((blk_cell (blk_alloc GR.out _) 3).trans rfl)⟩ (fun hHeld => ?_)
    clear hK K
    refine Cz.nm (some 57) ?_
    refine Cz.rO (N := some 58) 8 (fun K hK => ?_)
    refine Kd.R_append_step k36 (w0 := w) b0 (by rfl) (.tmp 55) (.tmp 57) 22 36 (.agg #[(.int .i64 0), (.int .i64 0), (.int .i64 0), (.int .i64 0), (.slice none 0 0)]) 56 rfl Try.underlying22 info36 rfl (by decide) (by omega) (.slice Av ([] : List Pl.Ext).length cv) (([] : List Pl.Ext).map ofE) (ofE (Pl.exOf (k, a, n, d, x, y, z))) [.int .i64 a, .int .i64 n, .int .i64 (4 - k), .int .i64 0, .slice Ad d.length cd] (fun k_ => True ∧ k_ ≠ gx) (fun k_ => (True ∧ k_ ≠ gx) ∧ some k_ ≠ (.slice Av ([] : List Pl.Ext).length cv : Value).ownBlock) rfl rfl ?aP (fun _ hk => hk) ?aF BL.out HB.out (Nat.le_trans HS0.out HB.out.size) ?aL ?_
    (case aP => exact k36_mkM _ _ _ (ofE (Pl.exOf (k, a, n, d, x, y, z))) (blk_apart (Kd.R_types BD.out BX.out (by decide)) BL.out (by decide)))
    (case aF => exact fun k_ hk => ⟨trivial, Nat.ne_of_gt (Nat.lt_of_lt_of_le (blk_lt BX.out) hk)⟩)
    (case aL => have := NN.out; simp only [List.length_append, List.length_map, List.length_cons, List.length_nil] at this ⊢; omega)
    intro v1 w7 ho hb hg hat
    obtain ⟨A1, c1, e1⟩ := Kd.R_slice ho
    subst e1
    have m_GR := Aside0.mk (blk_grown GR.out hg (Kd.R_ne BL.out GR.out (by decide)))
    have m_BX := Aside0.mk (blk_grown BX.out hg (fun he => (BL.out.1 gx he.symm).2 rfl))
    have m_HB := Aside0.mk (hb)
    have m_BL := Aside0.mk (ho)
    clear GR BX HB BL
    have GR := m_GR
    have BX := m_BX
    have HB := m_HB
    have BL := m_BL
    clear m_GR m_BX m_HB m_BL
    clear ho hb hg hat BD BF
    have hcr0 : w7.cell? ⟨gr, 3, none⟩ = some (.slice Av ([] : List Pl.Ext).length cv) := ((blk_cell GR.out 3).trans rfl)
    have hfr0 := blk_frozen GR.out 3
    refine hK.out _ _ ⟨((blk_cell (BX.out) 0).trans rfl), ((blk_cell (BX.out) 1).trans rfl), ((blk_cell (BX.out) 2).trans rfl), ((blk_cell (BX.out) 3).trans rfl), ((blk_cell (BX.out) 4).trans rfl), ((blk_cell GR.out 3).trans rfl)⟩ (fun hHeld => ?_)
    clear hK K
    refine Cz.nm (some 58) ?_
    refine Cz.rP 9 59 ?_
    refine Cz.rP 10 60 ?_
    refine Cz.rP 11 61 ?_
    refine Cz.rL (N := none) 12 (fun K hK => ?_)
    refine skip_ (w1 := ?_) (by rfl) rfl ?_ ?_
    rotate_left
    ·go_simp
     rfl
    refine hK.out _ _ ?_
    clear hK K
    refine done_ (by kernel_rfl) ?_
    go_wp2
    refine bodyPost_ret (results_tmp rfl _ _ _) rfl ?_
    exact ⟨.inl ⟨_, SN.out, rfl, _, blk_put GR.out 3 _ rfl, Kd.R_mono (Kd.R_far (p := ⟨gr, 3, none⟩) (Kd.R_types BL.out GR.out (by decide)) (fun _ hk => hk.2) _) (fun _ _ => trivial)⟩, HB.out.setCell (p := ⟨gr, 3, none⟩) B1.out _⟩
   ·obtain ⟨m, hm⟩ : ∃ m, m = (M ++ [u]).length := ⟨_, rfl⟩
    obtain ⟨q, hq⟩ : ∃ q, q = M.length := ⟨_, rfl⟩
    have hmq : m = q + 1 := by rw [hm, hq, List.length_append, List.length_singleton]
    have hmb : m ≤ 1000000 := by rw [hm]; exact NN.out
    have e0 : ((m : Int) == 0) = false := beq_eq_false_iff_ne.mpr (by omega)
    have e1 : wrap64 ((m : Int) - 1) = (q : Int) := by unfold wrap64; omega
    have e2 : (q : Int) < (m : Int) := by omega
    rw [← hm] at hcr0 BL GR
    obtain ⟨g, cap, ef, hgb, hgs, cs, hgc⟩ := Kd.R_form BL.out (by rw [List.length_map, ← hm]; omega)
    rw [List.length_map, ← hm] at ef
    injection ef with f1 f2 f3
    subst f1
    subst f3
    obtain ⟨c5, hc0, hM0, hcc, hfr⟩ := Kd.R_elem BL.out z36 (q : Int) (Int.natCast_nonneg q) e2
    have hgd : ((M ++ [u]).map ofE).getD (q : Int).toNat z36 = ofE u := by rw [Int.toNat_natCast, hq]; simp
    rw [hgd] at hM0
    obtain ⟨vu, rfl, BU⟩ := k36_openM hM0
    obtain ⟨Au, cu, eu⟩ := Kd.R_slice BU
    subst eu
    have BUd := Aside0.mk BU
    have HQ := Aside0.mk hq
    have HM := Aside0.mk hm
    have HMQ := Aside0.mk hmq
    have HMB := Aside0.mk hmb
    have hu0 : w5.cell? ⟨g, q * 5, none⟩ = some (.int .i64 u.1) := hcc 0 _ rfl
    have hu1 : w5.cell? ⟨g, q * 5 + 1, none⟩ = some (.int .i64 u.2.1) := hcc 1 _ rfl
    have hu2 : w5.cell? ⟨g, q * 5 + 2, none⟩ = some (.int .i64 u.2.2.1) := hcc 2 _ rfl
    have hu3 : w5.cell? ⟨g, q * 5 + 3, none⟩ = some (.int .i64 u.2.2.2.1) := hcc 3 _ rfl
    have hu4 : w5.cell? ⟨g, q * 5 + 4, none⟩ = some (.slice Au u.2.2.2.2.length cu) := hcc 4 _ rfl
    have e3 : (0 ≤ (q : Int)) = True := eq_true (by omega)
    have e4 : (q < m) = True := eq_true (by omega)
    have GG := Aside0.mk hgc
    have GB := Aside0.mk hgb
    clear hgc hgb hgs hcc hfr hM0 hgd hc0 BU hq hm hmq hmb c2
    by_cases cj : Pl.joinsB u.1 u.2.1 u.2.2.1 u.2.2.2.1 u.2.2.2.2 a n (4 - k) 0 d = true
    ·obtain ⟨dd, hdd⟩ : ∃ dd, dd = u.2.2.2.2 ++ d := ⟨_, rfl⟩
     have HJ := Aside0.mk (show extent_Join.f u.1 u.2.1 u.2.2.1 u.2.2.2.1 u.2.2.2.2 a n (4 - k) 0 d = some (u.1, u.2.1 + n, u.2.2.1, u.2.2.2.1, dd, 0) from by rw [hdd]; exact congrArg some (if_pos cj))
     have HDD := Aside0.mk hdd
     clear hdd
     have CJ := Aside0.mk cj
     clear cj
     go_upto_region 15 with (((with_reducible refine gate_dst (N := 9) rfl ?_); refine Cz.bx (N := 9) #[.int .i64 0, .int .i64 0, .int .i64 0, .int .i64 0, .slice none 0 0] 36 ?_; intro gw hg w6 hbox hb; have GWb := Aside0.mk (Nat.le_trans (Nat.le_trans HS0.out HB.out.size) (Nat.le_of_eq hg.symm)); have BE := Aside0.mk (Kd.R_below (Kd.R_elderB BL.out gw (Nat.le_of_eq hg.symm)) hb); have NXW := Aside0.mk (show gx ≠ gw from Nat.ne_of_lt (Nat.lt_of_lt_of_le (blk_lt BX.out) (Nat.le_of_eq hg.symm))); have NGW := Aside0.mk (show g ≠ gw from Nat.ne_of_lt (Nat.lt_of_lt_of_le (blk_lt GG.out) (Nat.le_of_eq hg.symm))); have m_BX := Aside0.mk (blk_below BX.out hb); have m_BF := Aside0.mk (blk_below BF.out hb); have m_GG := Aside0.mk (blk_below GG.out hb); have m_BUd := Aside0.mk (Kd.R_below BUd.out hb); have m_GR := Aside0.mk (blk_below GR.out hb); have m_BD := Aside0.mk (Kd.R_below BD.out hb); have m_HB := Aside0.mk (below_then HB.out (Nat.le_trans HS0.out HB.out.size) hb); clear BX BF GG BUd GR BD HB; have BX := m_BX; have BF := m_BF; have GG := m_GG; have BUd := m_BUd; have GR := m_GR; have BD := m_BD; have HB := m_HB; clear m_BX m_BF m_GG m_BUd m_GR m_BD m_HB; clear BL hg hu0 hu1 hu2 hu3 hu4 hcr0 e0 e1 e2 e3 e4; have BL := BE; clear BE; have BW := Aside0.mk hbox; clear hbox hb; obtain ⟨hcw0, hcw1, hcw2, hcw3, hcw4, hfw0, hfw1, hfw2, hfw3, hfw4⟩ := Cz.d5 BW))
     have q_ : ∀ k_, k_ ≠ gw → (((((w6.setCell ⟨gw, 0, none⟩ (.int .i64 u.1)).setCell ⟨gw, 1, none⟩ (.int .i64 u.2.1)).setCell ⟨gw, 2, none⟩ (.int .i64 u.2.2.1)).setCell ⟨gw, 3, none⟩ (.int .i64 u.2.2.2.1)).setCell ⟨gw, 4, none⟩ (.slice Au u.2.2.2.2.length cu)).heap[k_]? = w6.heap[k_]? := fun k_ hk => (Below.heap_setCell _ ⟨gw, 4, none⟩ _ k_ hk).trans ((Below.heap_setCell _ ⟨gw, 3, none⟩ _ k_ hk).trans ((Below.heap_setCell _ ⟨gw, 2, none⟩ _ k_ hk).trans ((Below.heap_setCell _ ⟨gw, 1, none⟩ _ k_ hk).trans ((Below.heap_setCell _ ⟨gw, 0, none⟩ _ k_ hk).trans (rfl)))))
     have NRW := Aside0.mk (show gr ≠ gw from blk_ne GR.out BW.out (by decide))
     have m1 : Aside0 ((((((w6.setCell ⟨gw, 0, none⟩ (.int .i64 u.1)).setCell ⟨gw, 1, none⟩ (.int .i64 u.2.1)).setCell ⟨gw, 2, none⟩ (.int .i64 u.2.2.1)).setCell ⟨gw, 3, none⟩ (.int .i64 u.2.2.2.1)).setCell ⟨gw, 4, none⟩ (.slice Au u.2.2.2.2.length cu)).heap[gw]? = some (.cells #[.int .i64 u.1, .int .i64 u.2.1, .int .i64 u.2.2.1, .int .i64 u.2.2.2.1, .slice Au u.2.2.2.2.length cu] 36 (0, 0))) := ⟨blk_put (blk_put (blk_put (blk_put (blk_put BW.out 0 _ rfl) 1 _ rfl) 2 _ rfl) 3 _ rfl) 4 _ rfl⟩
     have m2 : Aside0 ((((((w6.setCell ⟨gw, 0, none⟩ (.int .i64 u.1)).setCell ⟨gw, 1, none⟩ (.int .i64 u.2.1)).setCell ⟨gw, 2, none⟩ (.int .i64 u.2.2.1)).setCell ⟨gw, 3, none⟩ (.int .i64 u.2.2.2.1)).setCell ⟨gw, 4, none⟩ (.slice Au u.2.2.2.2.length cu)).heap[gr]? = _) := ⟨(q_ _ NRW.out).trans GR.out⟩
     have m3 : Aside0 ((((((w6.setCell ⟨gw, 0, none⟩ (.int .i64 u.1)).setCell ⟨gw, 1, none⟩ (.int .i64 u.2.1)).setCell ⟨gw, 2, none⟩ (.int .i64 u.2.2.1)).setCell ⟨gw, 3, none⟩ (.int .i64 u.2.2.2.1)).setCell ⟨gw, 4, none⟩ (.slice Au u.2.2.2.2.length cu)).heap[gx]? = _) := ⟨(q_ _ NXW.out).trans BX.out⟩
     have NFW := Aside0.mk (show gf ≠ gw from blk_ne BF.out BW.out (by decide))
     have m10 : Aside0 ((((((w6.setCell ⟨gw, 0, none⟩ (.int .i64 u.1)).setCell ⟨gw, 1, none⟩ (.int .i64 u.2.1)).setCell ⟨gw, 2, none⟩ (.int .i64 u.2.2.1)).setCell ⟨gw, 3, none⟩ (.int .i64 u.2.2.2.1)).setCell ⟨gw, 4, none⟩ (.slice Au u.2.2.2.2.length cu)).heap[gf]? = _) := ⟨(q_ _ NFW.out).trans BF.out⟩
     have m7 : Aside0 ((((((w6.setCell ⟨gw, 0, none⟩ (.int .i64 u.1)).setCell ⟨gw, 1, none⟩ (.int .i64 u.2.1)).setCell ⟨gw, 2, none⟩ (.int .i64 u.2.2.1)).setCell ⟨gw, 3, none⟩ (.int .i64 u.2.2.2.1)).setCell ⟨gw, 4, none⟩ (.slice Au u.2.2.2.2.length cu)).heap[g]? = _) := ⟨(q_ _ NGW.out).trans GG.out⟩
     have m4 := Aside0.mk (show Kd.R k36 36 (((((w6.setCell ⟨gw, 0, none⟩ (.int .i64 u.1)).setCell ⟨gw, 1, none⟩ (.int .i64 u.2.1)).setCell ⟨gw, 2, none⟩ (.int .i64 u.2.2.1)).setCell ⟨gw, 3, none⟩ (.int .i64 u.2.2.2.1)).setCell ⟨gw, 4, none⟩ (.slice Au u.2.2.2.2.length cu)) b0 _ _ _ from Kd.R_step BL.out (fun k_ hk _ => q_ k_ hk.2))
     have m5 := Aside0.mk (show Kd.R (Kd.int .u8) 5 (((((w6.setCell ⟨gw, 0, none⟩ (.int .i64 u.1)).setCell ⟨gw, 1, none⟩ (.int .i64 u.2.1)).setCell ⟨gw, 2, none⟩ (.int .i64 u.2.2.1)).setCell ⟨gw, 3, none⟩ (.int .i64 u.2.2.2.1)).setCell ⟨gw, 4, none⟩ (.slice Au u.2.2.2.2.length cu)) b0 (fun _ => True) _ _ from Kd.R_mono (Kd.R_step (Kd.R_types BD.out BW.out (by decide)) (fun k_ hk _ => q_ k_ hk.2)) (fun _ _ => trivial))
     have m8 := Aside0.mk (show Kd.R (Kd.int .u8) 5 (((((w6.setCell ⟨gw, 0, none⟩ (.int .i64 u.1)).setCell ⟨gw, 1, none⟩ (.int .i64 u.2.1)).setCell ⟨gw, 2, none⟩ (.int .i64 u.2.2.1)).setCell ⟨gw, 3, none⟩ (.int .i64 u.2.2.2.1)).setCell ⟨gw, 4, none⟩ (.slice Au u.2.2.2.2.length cu)) b0 (fun k_ => (True ∧ k_ ≠ gx) ∧ k_ ≠ g) _ _ from Kd.R_mono (Kd.R_step (Kd.R_types BUd.out BW.out (by decide)) (fun k_ hk _ => q_ k_ hk.2)) (fun _ hk => hk.1))
     have m6 : Aside0 (Below b0 w (((((w6.setCell ⟨gw, 0, none⟩ (.int .i64 u.1)).setCell ⟨gw, 1, none⟩ (.int .i64 u.2.1)).setCell ⟨gw, 2, none⟩ (.int .i64 u.2.2.1)).setCell ⟨gw, 3, none⟩ (.int .i64 u.2.2.2.1)).setCell ⟨gw, 4, none⟩ (.slice Au u.2.2.2.2.length cu))) := ⟨((((HB.out.setCell (p := ⟨gw, 0, none⟩) GWb.out _).setCell (p := ⟨gw, 1, none⟩) GWb.out _).setCell (p := ⟨gw, 2, none⟩) GWb.out _).setCell (p := ⟨gw, 3, none⟩) GWb.out _).setCell (p := ⟨gw, 4, none⟩) GWb.out _⟩
     generalize (((((w6.setCell ⟨gw, 0, none⟩ (.int .i64 u.1)).setCell ⟨gw, 1, none⟩ (.int .i64 u.2.1)).setCell ⟨gw, 2, none⟩ (.int .i64 u.2.2.1)).setCell ⟨gw, 3, none⟩ (.int .i64 u.2.2.2.1)).setCell ⟨gw, 4, none⟩ (.slice Au u.2.2.2.2.length cu)) = w7 at m1 m2 m3 m4 m5 m6 m7 m8 m10 ⊢
     clear q_ GR BX BL BD BUd HB BW GG BF
     clear hcw0 hfw0 hcw1 hfw1 hcw2 hfw2 hcw3 hfw3 hcw4 hfw4
     have BF := m10
     have BW := m1
     have GR := m2
     have BX := m3
     have BL := m4
     have BD := m5
     have HB := m6
     have GG := m7
     have BUd := m8
     clear m1 m2 m3 m4 m5 m6 m7 m8 m10
     obtain ⟨hcw0, hcw1, hcw2, hcw3, hcw4, hfw0, hfw1, hfw2, hfw3, hfw4⟩ := Cz.d5 BW
     have hcx0 : w7.cell? ⟨gx, 0, none⟩ = some ((.int .i64 a)) := (blk_cell BX.out 0).trans rfl
     have hcx1 : w7.cell? ⟨gx, 1, none⟩ = some ((.int .i64 n)) := (blk_cell BX.out 1).trans rfl
     have hcx2 : w7.cell? ⟨gx, 2, none⟩ = some ((.int .i64 (4 - k))) := (blk_cell BX.out 2).trans rfl
     have hcx3 : w7.cell? ⟨gx, 3, none⟩ = some ((.int .i64 0)) := (blk_cell BX.out 3).trans rfl
     have hcx4 : w7.cell? ⟨gx, 4, none⟩ = some ((.slice Ad d.length cd)) := (blk_cell BX.out 4).trans rfl
     have hfx0 := blk_frozen BX.out 0
     have hfx1 := blk_frozen BX.out 1
     have hfx2 := blk_frozen BX.out 2
     have hfx3 := blk_frozen BX.out 3
     have hfx4 := blk_frozen BX.out 4
     go_upto_region 16 with (first | (go_at_call 81; refine (extent_Join.calls _ _ _ _ _ _ u.2.2.2.2 _ _ _ _ _ _ d _ _ _ _ _ _ _ (Kd.R_reads' BUd.out).2.2 (Kd.R_reads' BUd.out).2.1 (Kd.R_reads' BD.out).2.2 (Kd.R_reads' BD.out).2.1 HJ.out).mono ?_; rintro e' w8 ⟨vj, rfl, ho, hb⟩; obtain ⟨Aj, cj, ej⟩ := Kd.R_slice ho; subst ej; have BJ := Aside0.mk (Kd.R_lower ho (Nat.le_trans HS0.out HB.out.size)); have m_BW := Aside0.mk (blk_below BW.out hb); have m_BF := Aside0.mk (blk_below BF.out hb); have m_BX := Aside0.mk (blk_below BX.out hb); have m_GG := Aside0.mk (blk_below GG.out hb); have m_GR := Aside0.mk (blk_below GR.out hb); have m_BL := Aside0.mk (Kd.R_below BL.out hb); have m_BD := Aside0.mk (Kd.R_below BD.out hb); have m_HB := Aside0.mk (below_then HB.out (Nat.le_trans HS0.out HB.out.size) hb); clear BW BF BX GG GR BL BD HB; have BW := m_BW; have BF := m_BF; have BX := m_BX; have GG := m_GG; have GR := m_GR; have BL := m_BL; have BD := m_BD; have HB := m_HB; clear m_BW m_BF m_BX m_GG m_GR m_BL m_BD m_HB; clear ho hb BUd) | ((with_reducible refine gate_dst (N := 10) rfl ?_); refine Cz.bx (N := 10) #[.int .i64 0, .int .i64 0, .int .i64 0, .int .i64 0, .slice none 0 0] 36 ?_; intro gy hg w9 hbox hb; have GYb := Aside0.mk (Nat.le_trans (Nat.le_trans HS0.out HB.out.size) (Nat.le_of_eq hg.symm)); have BE := Aside0.mk (Kd.R_below (Kd.R_elderB BL.out gy (Nat.le_of_eq hg.symm)) hb); have NWY := Aside0.mk (show gw ≠ gy from Nat.ne_of_lt (Nat.lt_of_lt_of_le (blk_lt BW.out) (Nat.le_of_eq hg.symm))); have NGY := Aside0.mk (show g ≠ gy from Nat.ne_of_lt (Nat.lt_of_lt_of_le (blk_lt GG.out) (Nat.le_of_eq hg.symm))); have NXY := Aside0.mk (show gx ≠ gy from Nat.ne_of_lt (Nat.lt_of_lt_of_le (blk_lt BX.out) (Nat.le_of_eq hg.symm))); have m_BX := Aside0.mk (blk_below BX.out hb); have m_BW := Aside0.mk (blk_below BW.out hb); have m_BF := Aside0.mk (blk_below BF.out hb); have m_GG := Aside0.mk (blk_below GG.out hb); have m_BJ := Aside0.mk (Kd.R_below BJ.out hb); have m_GR := Aside0.mk (blk_below GR.out hb); have m_BD := Aside0.mk (Kd.R_below BD.out hb); have m_HB := Aside0.mk (below_then HB.out (Nat.le_trans HS0.out HB.out.size) hb); clear BX BW BF GG BJ GR BD HB; have BX := m_BX; have BW := m_BW; have BF := m_BF; have GG := m_GG; have BJ := m_BJ; have GR := m_GR; have BD := m_BD; have HB := m_HB; clear m_BX m_BW m_BF m_GG m_BJ m_GR m_BD m_HB; clear BL hg; have BL := BE; clear BE; have BY := Aside0.mk hbox; clear hbox hb; obtain ⟨hcy0, hcy1, hcy2, hcy3, hcy4, hfy0, hfy1, hfy2, hfy3, hfy4⟩ := Cz.d5 BY))
     have q_ : ∀ k_, k_ ≠ gy → (((((w9.setCell ⟨gy, 0, none⟩ (.int .i64 u.1)).setCell ⟨gy, 1, none⟩ (.int .i64 (u.2.1 + n))).setCell ⟨gy, 2, none⟩ (.int .i64 u.2.2.1)).setCell ⟨gy, 3, none⟩ (.int .i64 u.2.2.2.1)).setCell ⟨gy, 4, none⟩ (.slice Aj dd.length cj)).heap[k_]? = w9.heap[k_]? := fun k_ hk => (Below.heap_setCell _ ⟨gy, 4, none⟩ _ k_ hk).trans ((Below.heap_setCell _ ⟨gy, 3, none⟩ _ k_ hk).trans ((Below.heap_setCell _ ⟨gy, 2, none⟩ _ k_ hk).trans ((Below.heap_setCell _ ⟨gy, 1, none⟩ _ k_ hk).trans ((Below.heap_setCell _ ⟨gy, 0, none⟩ _ k_ hk).trans (rfl)))))
     have NRY := Aside0.mk (show gr ≠ gy from blk_ne GR.out BY.out (by decide))
     have NFY := Aside0.mk (show gf ≠ gy from blk_ne BF.out BY.out (by decide))
     have m1 : Aside0 ((((((w9.setCell ⟨gy, 0, none⟩ (.int .i64 u.1)).setCell ⟨gy, 1, none⟩ (.int .i64 (u.2.1 + n))).setCell ⟨gy, 2, none⟩ (.int .i64 u.2.2.1)).setCell ⟨gy, 3, none⟩ (.int .i64 u.2.2.2.1)).setCell ⟨gy, 4, none⟩ (.slice Aj dd.length cj)).heap[gy]? = some (.cells #[.int .i64 u.1, .int .i64 (u.2.1 + n), .int .i64 u.2.2.1, .int .i64 u.2.2.2.1, .slice Aj dd.length cj] 36 (0, 0))) := ⟨blk_put (blk_put (blk_put (blk_put (blk_put BY.out 0 _ rfl) 1 _ rfl) 2 _ rfl) 3 _ rfl) 4 _ rfl⟩
     have m2 : Aside0 ((((((w9.setCell ⟨gy, 0, none⟩ (.int .i64 u.1)).setCell ⟨gy, 1, none⟩ (.int .i64 (u.2.1 + n))).setCell ⟨gy, 2, none⟩ (.int .i64 u.2.2.1)).setCell ⟨gy, 3, none⟩ (.int .i64 u.2.2.2.1)).setCell ⟨gy, 4, none⟩ (.slice Aj dd.length cj)).heap[gr]? = _) := ⟨(q_ _ NRY.out).trans GR.out⟩
     have m3 : Aside0 ((((((w9.setCell ⟨gy, 0, none⟩ (.int .i64 u.1)).setCell ⟨gy, 1, none⟩ (.int .i64 (u.2.1 + n))).setCell ⟨gy, 2, none⟩ (.int .i64 u.2.2.1)).setCell ⟨gy, 3, none⟩ (.int .i64 u.2.2.2.1)).setCell ⟨gy, 4, none⟩ (.slice Aj dd.length cj)).heap[gw]? = _) := ⟨(q_ _ NWY.out).trans BW.out⟩
     have m7 : Aside0 ((((((w9.setCell ⟨gy, 0, none⟩ (.int .i64 u.1)).setCell ⟨gy, 1, none⟩ (.int .i64 (u.2.1 + n))).setCell ⟨gy, 2, none⟩ (.int .i64 u.2.2.1)).setCell ⟨gy, 3, none⟩ (.int .i64 u.2.2.2.1)).setCell ⟨gy, 4, none⟩ (.slice Aj dd.length cj)).heap[g]? = _) := ⟨(q_ _ NGY.out).trans GG.out⟩
     have m9 : Aside0 ((((((w9.setCell ⟨gy, 0, none⟩ (.int .i64 u.1)).setCell ⟨gy, 1, none⟩ (.int .i64 (u.2.1 + n))).setCell ⟨gy, 2, none⟩ (.int .i64 u.2.2.1)).setCell ⟨gy, 3, none⟩ (.int .i64 u.2.2.2.1)).setCell ⟨gy, 4, none⟩ (.slice Aj dd.length cj)).heap[gx]? = _) := ⟨(q_ _ NXY.out).trans BX.out⟩
     have m10 : Aside0 ((((((w9.setCell ⟨gy, 0, none⟩ (.int .i64 u.1)).setCell ⟨gy, 1, none⟩ (.int .i64 (u.2.1 + n))).setCell ⟨gy, 2, none⟩ (.int .i64 u.2.2.1)).setCell ⟨gy, 3, none⟩ (.int .i64 u.2.2.2.1)).setCell ⟨gy, 4, none⟩ (.slice Aj dd.length cj)).heap[gf]? = _) := ⟨(q_ _ NFY.out).trans BF.out⟩
     have m4 := Aside0.mk (show Kd.R k36 36 (((((w9.setCell ⟨gy, 0, none⟩ (.int .i64 u.1)).setCell ⟨gy, 1, none⟩ (.int .i64 (u.2.1 + n))).setCell ⟨gy, 2, none⟩ (.int .i64 u.2.2.1)).setCell ⟨gy, 3, none⟩ (.int .i64 u.2.2.2.1)).setCell ⟨gy, 4, none⟩ (.slice Aj dd.length cj)) b0 (fun k_ => True ∧ k_ ≠ gx) _ _ from Kd.R_mono (Kd.R_step BL.out (fun k_ hk _ => q_ k_ hk.2)) (fun _ hk => ⟨trivial, hk.1.1.2⟩))
     have m5 := Aside0.mk (show Kd.R (Kd.int .u8) 5 (((((w9.setCell ⟨gy, 0, none⟩ (.int .i64 u.1)).setCell ⟨gy, 1, none⟩ (.int .i64 (u.2.1 + n))).setCell ⟨gy, 2, none⟩ (.int .i64 u.2.2.1)).setCell ⟨gy, 3, none⟩ (.int .i64 u.2.2.2.1)).setCell ⟨gy, 4, none⟩ (.slice Aj dd.length cj)) b0 (fun _ => True) _ _ from Kd.R_mono (Kd.R_step (Kd.R_types BJ.out BY.out (by decide)) (fun k_ hk _ => q_ k_ hk.2)) (fun _ _ => trivial))
     have m8 := Aside0.mk (show Kd.R (Kd.int .u8) 5 (((((w9.setCell ⟨gy, 0, none⟩ (.int .i64 u.1)).setCell ⟨gy, 1, none⟩ (.int .i64 (u.2.1 + n))).setCell ⟨gy, 2, none⟩ (.int .i64 u.2.2.1)).setCell ⟨gy, 3, none⟩ (.int .i64 u.2.2.2.1)).setCell ⟨gy, 4, none⟩ (.slice Aj dd.length cj)) b0 (fun _ => True) _ _ from Kd.R_mono (Kd.R_step (Kd.R_types BD.out BY.out (by decide)) (fun k_ hk _ => q_ k_ hk.2)) (fun _ _ => trivial))
     have m6 : Aside0 (Below b0 w (((((w9.setCell ⟨gy, 0, none⟩ (.int .i64 u.1)).setCell ⟨gy, 1, none⟩ (.int .i64 (u.2.1 + n))).setCell ⟨gy, 2, none⟩ (.int .i64 u.2.2.1)).setCell ⟨gy, 3, none⟩ (.int .i64 u.2.2.2.1)).setCell ⟨gy, 4, none⟩ (.slice Aj dd.length cj))) := ⟨((((HB.out.setCell (p := ⟨gy, 0, none⟩) GYb.out _).setCell (p := ⟨gy, 1, none⟩) GYb.out _).setCell (p := ⟨gy, 2, none⟩) GYb.out _).setCell (p := ⟨gy, 3, none⟩) GYb.out _).setCell (p := ⟨gy, 4, none⟩) GYb.out _⟩
     generalize (((((w9.setCell ⟨gy, 0, none⟩ (.int .i64 u.1)).setCell ⟨gy, 1, none⟩ (.int .i64 (u.2.1 + n))).setCell ⟨gy, 2, none⟩ (.int .i64 u.2.2.1)).setCell ⟨gy, 3, none⟩ (.int .i64 u.2.2.2.1)).setCell ⟨gy, 4, none⟩ (.slice Aj dd.length cj)) = w10 at m1 m2 m3 m4 m5 m6 m7 m8 m9 m10 ⊢
     clear q_ GR BX BF BD BL BJ HB BW GG BY
     clear hcy0 hfy0 hcy1 hfy1 hcy2 hfy2 hcy3 hfy3 hcy4 hfy4
     have BY := m1
     have GR := m2
     have BW := m3
     have BL := m4
     have BJ := m5
     have HB := m6
     have GG := m7
     have BD := m8
     have BX := m9
     have BF := m10
     clear m1 m2 m3 m4 m5 m6 m7 m8 m9 m10
     go_upto_region 17 with (fail)
     have m_GR := Aside0.mk (blk_drew GR.out)
     have m_BX := Aside0.mk (blk_drew BX.out)
     have m_BF := Aside0.mk (blk_drew BF.out)
     have m_BW := Aside0.mk (blk_drew BW.out)
     have m_BY := Aside0.mk (blk_drew BY.out)
     have m_BL := Aside0.mk (Kd.R_drew BL.out)
     have m_BD := Aside0.mk (Kd.R_drew BD.out)
     have m_BJ := Aside0.mk (Kd.R_drew BJ.out)
     have m_GG := Aside0.mk (blk_drew GG.out)
     have m_HB := Aside0.mk (below_drew HB.out)
     clear GR BX BF BW BY BL BD BJ GG HB
     have GR := m_GR
     have BX := m_BX
     have BF := m_BF
     have BW := m_BW
     have BY := m_BY
     have BL := m_BL
     have BD := m_BD
     have BJ := m_BJ
     have GG := m_GG
     have HB := m_HB
     clear m_GR m_BX m_BF m_BW m_BY m_BL m_BD m_BJ m_GG m_HB
     refine start_ (n := 10) (S := fun w' => w'.cell? ⟨gy, 0, none⟩ = some (.int .i64 u.1) ∧ w'.cell? ⟨gy, 1, none⟩ = some (.int .i64 (u.2.1 + n)) ∧ w'.cell? ⟨gy, 2, none⟩ = some (.int .i64 u.2.2.1) ∧ w'.cell? ⟨gy, 3, none⟩ = some (.int .i64 u.2.2.2.1) ∧ w'.cell? ⟨gy, 4, none⟩ = some (.slice Aj dd.length cj) ∧ w'.cell? ⟨gr, 3, none⟩ = some (.slice (some ⟨g, 0, none⟩) m cv)) (ds := [9]) #[false, false, false, false, false, false, false, false, false, false] (by kernel_rfl) rfl rfl ⟨((blk_cell BY.out 0).trans rfl), ((blk_cell BY.out 1).trans rfl), ((blk_cell BY.out 2).trans rfl), ((blk_cell BY.out 3).trans rfl), ((blk_cell BY.out 4).trans rfl), ((blk_cell GR.out 3).trans rfl)⟩ (fun hHeld => ?_)
     generalize w10.drew = w11 at GR BX BF BW BY BL BD BJ GG HB hHeld ⊢
     have e1 : wrap64 ((m : Int) - 1) = (q : Int) := by have := HMQ.out; have := HMB.out; unfold wrap64; omega
     have e2 : (q : Int) < (m : Int) := by have := HMQ.out; omega
     have e3 : (0 ≤ (q : Int)) = True := eq_true (by omega)
     have e4 : (q < m) = True := eq_true (by have := HMQ.out; omega)
     obtain ⟨c5, hc0, hM0, hcc, hfr⟩ := Kd.R_elem BL.out z36 (q : Int) (Int.natCast_nonneg q) e2
     have hu0 : w11.frozen? ⟨g, q * 5, none⟩ = false := hfr 0
     have hu1 : w11.frozen? ⟨g, q * 5 + 1, none⟩ = false := hfr 1
     have hu2 : w11.frozen? ⟨g, q * 5 + 2, none⟩ = false := hfr 2
     have hu3 : w11.frozen? ⟨g, q * 5 + 3, none⟩ = false := hfr 3
     have hu4 : w11.frozen? ⟨g, q * 5 + 4, none⟩ = false := hfr 4
     obtain ⟨vu, rfl, BU⟩ := k36_openM hM0
     clear hM0
     obtain ⟨q0, hq0⟩ : ∃ v, w11.cell? ⟨g, q * 5, none⟩ = some v := ⟨_, hcc 0 _ rfl⟩
     obtain ⟨q1, hq1⟩ : ∃ v, w11.cell? ⟨g, q * 5 + 1, none⟩ = some v := ⟨_, hcc 1 _ rfl⟩
     obtain ⟨q2, hq2⟩ : ∃ v, w11.cell? ⟨g, q * 5 + 2, none⟩ = some v := ⟨_, hcc 2 _ rfl⟩
     obtain ⟨q3, hq3⟩ : ∃ v, w11.cell? ⟨g, q * 5 + 3, none⟩ = some v := ⟨_, hcc 3 _ rfl⟩
     obtain ⟨q4, hq4⟩ : ∃ v, w11.cell? ⟨g, q * 5 + 4, none⟩ = some v := ⟨_, hcc 4 _ rfl⟩
     have HS := Aside0.mk (Kd.R_seg (okp := fun k_ => k_ ≠ g) (Kd.R_mono (ok' := fun _ => True) BL.out (fun _ _ => trivial)) (q : Int) (Int.natCast_nonneg q) e2 (seg := [.int .i64 u.1, .int .i64 (u.2.1 + n), .int .i64 u.2.2.1, .int .i64 u.2.2.2.1, .slice Aj dd.length cj]) (j := 0) hc0 hcc (show 0 + 5 ≤ 5 from by decide) (x' := ofE (u.1, u.2.1 + n, u.2.2.1, u.2.2.2.1, dd)) (k36_mkM _ _ _ (ofE (u.1, u.2.1 + n, u.2.2.1, u.2.2.2.1, dd)) (Kd.R_mono (Kd.R_types BJ.out GG.out (by decide)) (fun _ hk => hk.2))) (fun _ hk => ⟨trivial, hk⟩))
     clear hcc hfr hc0 BU
     refine Cz.rP 0 79 ?_
     refine Cz.rP 1 80 ?_
     refine Cz.rP 2 81 ?_
     refine Cz.rP 3 82 ?_
     refine Cz.rP 5 84 ?_
     refine Cz.rP 6 85 ?_
     refine Cz.rT 4 83 hHeld ?_
     refine Cz.rT 7 86 hHeld ?_
     refine Cz.rP 8 87 ?_
     refine Cz.rL (N := none) 9 (fun K hK => ?_)
     refine skip_ (w1 := ?_) (by rfl) rfl ?_ ?_
     rotate_left
     ·go_simp
      rfl
     refine hK.out _ _ ?_
     clear hK K
     refine done_ (by kernel_rfl) ?_
     have hset : ((M ++ [u]).map ofE).set (q : Int).toNat (ofE (u.1, u.2.1 + n, u.2.2.1, u.2.2.2.1, dd)) = (M ++ [(u.1, u.2.1 + n, u.2.2.1, u.2.2.2.1, dd)]).map ofE := by rw [Int.toNat_natCast, HQ.out]; simp
     have hg := HS.out.2
     have m4 : Aside0 (Kd.R k36 36 (((((w11.setCell ⟨g, q * 5, none⟩ (.int .i64 u.1)).setCell ⟨g, q * 5 + 1, none⟩ (.int .i64 (u.2.1 + n))).setCell ⟨g, q * 5 + 2, none⟩ (.int .i64 u.2.2.1)).setCell ⟨g, q * 5 + 3, none⟩ (.int .i64 u.2.2.2.1)).setCell ⟨g, q * 5 + 4, none⟩ (.slice Aj dd.length cj)) b0 (fun _ => True) (.slice (some ⟨g, 0, none⟩) m cv) ((M ++ [(u.1, u.2.1 + n, u.2.2.1, u.2.2.2.1, dd)]).map ofE)) := ⟨by rw [← hset]; exact HS.out.1⟩
     have m2 : Aside0 ((((((w11.setCell ⟨g, q * 5, none⟩ (.int .i64 u.1)).setCell ⟨g, q * 5 + 1, none⟩ (.int .i64 (u.2.1 + n))).setCell ⟨g, q * 5 + 2, none⟩ (.int .i64 u.2.2.1)).setCell ⟨g, q * 5 + 3, none⟩ (.int .i64 u.2.2.2.1)).setCell ⟨g, q * 5 + 4, none⟩ (.slice Aj dd.length cj)).heap[gr]? = _) := ⟨blk_grown GR.out hg (fun he => (blk_ne GR.out GG.out (by decide)) (Option.some.inj he))⟩
     have m10 : Aside0 ((((((w11.setCell ⟨g, q * 5, none⟩ (.int .i64 u.1)).setCell ⟨g, q * 5 + 1, none⟩ (.int .i64 (u.2.1 + n))).setCell ⟨g, q * 5 + 2, none⟩ (.int .i64 u.2.2.1)).setCell ⟨g, q * 5 + 3, none⟩ (.int .i64 u.2.2.2.1)).setCell ⟨g, q * 5 + 4, none⟩ (.slice Aj dd.length cj)).heap[gf]? = _) := ⟨blk_grown BF.out hg (fun he => (blk_ne BF.out GG.out (by decide)) (Option.some.inj he))⟩
     have m3 : Aside0 ((((((w11.setCell ⟨g, q * 5, none⟩ (.int .i64 u.1)).setCell ⟨g, q * 5 + 1, none⟩ (.int .i64 (u.2.1 + n))).setCell ⟨g, q * 5 + 2, none⟩ (.int .i64 u.2.2.1)).setCell ⟨g, q * 5 + 3, none⟩ (.int .i64 u.2.2.2.1)).setCell ⟨g, q * 5 + 4, none⟩ (.slice Aj dd.length cj)).heap[gw]? = _) := ⟨blk_grown BW.out hg (fun he => NGW.out (Option.some.inj he).symm)⟩
     have m6 : Aside0 (Below b0 w (((((w11.setCell ⟨g, q * 5, none⟩ (.int .i64 u.1)).setCell ⟨g, q * 5 + 1, none⟩ (.int .i64 (u.2.1 + n))).setCell ⟨g, q * 5 + 2, none⟩ (.int .i64 u.2.2.1)).setCell ⟨g, q * 5 + 3, none⟩ (.int .i64 u.2.2.2.1)).setCell ⟨g, q * 5 + 4, none⟩ (.slice Aj dd.length cj))) := ⟨((((HB.out.setCell (p := ⟨g, q * 5, none⟩) GB.out _).setCell (p := ⟨g, q * 5 + 1, none⟩) GB.out _).setCell (p := ⟨g, q * 5 + 2, none⟩) GB.out _).setCell (p := ⟨g, q * 5 + 3, none⟩) GB.out _).setCell (p := ⟨g, q * 5 + 4, none⟩) GB.out _⟩
     generalize (((((w11.setCell ⟨g, q * 5, none⟩ (.int .i64 u.1)).setCell ⟨g, q * 5 + 1, none⟩ (.int .i64 (u.2.1 + n))).setCell ⟨g, q * 5 + 2, none⟩ (.int .i64 u.2.2.1)).setCell ⟨g, q * 5 + 3, none⟩ (.int .i64 u.2.2.2.1)).setCell ⟨g, q * 5 + 4, none⟩ (.slice Aj dd.length cj)) = w12 at m2 m3 m4 m6 m10 ⊢
     clear hset hg GR BX BF BW BY BL BD BJ GG HB HS hHeld e1 e2 e3 e4 hu0 hu1 hu2 hu3 hu4 hq0 hq1 hq2 hq3 hq4
     have hcf0 : w12.cell? ⟨gf, 0, none⟩ = some (.int .i64 k) := ((blk_cell m10.out 0).trans rfl)
     have hcw1 : w12.cell? ⟨gw, 1, none⟩ = some (.int .i64 u.2.1) := ((blk_cell m3.out 1).trans rfl)
     have hu1 : 0 ≤ u.2.1 := by have := Pl.extOk_iff.1 (show Pl.extOk u.1 u.2.1 u.2.2.1 u.2.2.2.1 u.2.2.2.2 = true from EE.out u (by simp)); omega
     by_cases k2 : k = 2
     ·have hk2 : (k == 2) = true := beq_iff_eq.mpr k2
      by_cases k16 : u.2.1 % 16 = 0
      ·have hk0 : (u.2.1 % 16 == 0) = true := beq_iff_eq.mpr k16
       have SN := Aside0.mk (show Pl.stepS B (M ++ [u]) (k, a, n, d, x, y, z) = some (M ++ [(u.1, u.2.1 + n, u.2.2.1, u.2.2.2.1, dd)]) from by rw [HDD.out]; exact (Pl.stepS_snoc _ _ _ _).trans ((if_neg (by have := C1.out; dsimp only; omega)).trans ((if_pos CJ.out).trans (if_pos ⟨k2, k16⟩))))
       clear k2 k16
       go_wp2
       refine bodyPost_ret (results_tmp rfl _ _ _) rfl ?_
       exact ⟨.inl ⟨_, SN.out, rfl, _, m2.out, m4.out⟩, m6.out⟩
      ·have hk0 : (u.2.1 % 16 == 0) = false := beq_eq_false_iff_ne.mpr k16
       have SN := Aside0.mk (show Pl.stepS B (M ++ [u]) (k, a, n, d, x, y, z) = none from (Pl.stepS_snoc _ _ _ _).trans ((if_neg (by have := C1.out; dsimp only; omega)).trans ((if_pos CJ.out).trans (if_neg (fun h => k16 h.2)))))
       clear k2 k16
       go_wp2
       refine bodyPost_ret (results_tmp rfl _ _ _) rfl ?_
       exact ⟨.inr ⟨SN.out, rfl⟩, m6.out⟩
     ·have hk2 : (k == 2) = false := beq_eq_false_iff_ne.mpr k2
      have SN := Aside0.mk (show Pl.stepS B (M ++ [u]) (k, a, n, d, x, y, z) = none from (Pl.stepS_snoc _ _ _ _).trans ((if_neg (by have := C1.out; dsimp only; omega)).trans ((if_pos CJ.out).trans (if_neg (fun h => k2 h.1)))))
      clear k2
      go_wp2
      refine bodyPost_ret (results_tmp rfl _ _ _) rfl ?_
      exact ⟨.inr ⟨SN.out, rfl⟩, m6.out⟩
    ·have HJ := Aside0.mk (show extent_Join.f u.1 u.2.1 u.2.2.1 u.2.2.2.1 u.2.2.2.2 a n (4 - k) 0 d = some (0, 0, 0, 0, [], 70) from congrArg some (if_neg cj))
     have CJ := Aside0.mk cj
     clear cj
     go_upto_region 15 with (((with_reducible refine gate_dst (N := 9) rfl ?_); refine Cz.bx (N := 9) #[.int .i64 0, .int .i64 0, .int .i64 0, .int .i64 0, .slice none 0 0] 36 ?_; intro gw hg w6 hbox hb; have GWb := Aside0.mk (Nat.le_trans (Nat.le_trans HS0.out HB.out.size) (Nat.le_of_eq hg.symm)); have BE := Aside0.mk (Kd.R_below (Kd.R_elderB BL.out gw (Nat.le_of_eq hg.symm)) hb); have NXW := Aside0.mk (show gx ≠ gw from Nat.ne_of_lt (Nat.lt_of_lt_of_le (blk_lt BX.out) (Nat.le_of_eq hg.symm))); have NGW := Aside0.mk (show g ≠ gw from Nat.ne_of_lt (Nat.lt_of_lt_of_le (blk_lt GG.out) (Nat.le_of_eq hg.symm))); have m_BX := Aside0.mk (blk_below BX.out hb); have m_BF := Aside0.mk (blk_below BF.out hb); have m_GG := Aside0.mk (blk_below GG.out hb); have m_BUd := Aside0.mk (Kd.R_below BUd.out hb); have m_GR := Aside0.mk (blk_below GR.out hb); have m_BD := Aside0.mk (Kd.R_below BD.out hb); have m_HB := Aside0.mk (below_then HB.out (Nat.le_trans HS0.out HB.out.size) hb); clear BX BF GG BUd GR BD HB; have BX := m_BX; have BF := m_BF; have GG := m_GG; have BUd := m_BUd; have GR := m_GR; have BD := m_BD; have HB := m_HB; clear m_BX m_BF m_GG m_BUd m_GR m_BD m_HB; clear BL hg hu0 hu1 hu2 hu3 hu4 hcr0 e0 e1 e2 e3 e4; have BL := BE; clear BE; have BW := Aside0.mk hbox; clear hbox hb; obtain ⟨hcw0, hcw1, hcw2, hcw3, hcw4, hfw0, hfw1, hfw2, hfw3, hfw4⟩ := Cz.d5 BW))
     have q_ : ∀ k_, k_ ≠ gw → (((((w6.setCell ⟨gw, 0, none⟩ (.int .i64 u.1)).setCell ⟨gw, 1, none⟩ (.int .i64 u.2.1)).setCell ⟨gw, 2, none⟩ (.int .i64 u.2.2.1)).setCell ⟨gw, 3, none⟩ (.int .i64 u.2.2.2.1)).setCell ⟨gw, 4, none⟩ (.slice Au u.2.2.2.2.length cu)).heap[k_]? = w6.heap[k_]? := fun k_ hk => (Below.heap_setCell _ ⟨gw, 4, none⟩ _ k_ hk).trans ((Below.heap_setCell _ ⟨gw, 3, none⟩ _ k_ hk).trans ((Below.heap_setCell _ ⟨gw, 2, none⟩ _ k_ hk).trans ((Below.heap_setCell _ ⟨gw, 1, none⟩ _ k_ hk).trans ((Below.heap_setCell _ ⟨gw, 0, none⟩ _ k_ hk).trans (rfl)))))
     have NRW := Aside0.mk (show gr ≠ gw from blk_ne GR.out BW.out (by decide))
     have m1 : Aside0 ((((((w6.setCell ⟨gw, 0, none⟩ (.int .i64 u.1)).setCell ⟨gw, 1, none⟩ (.int .i64 u.2.1)).setCell ⟨gw, 2, none⟩ (.int .i64 u.2.2.1)).setCell ⟨gw, 3, none⟩ (.int .i64 u.2.2.2.1)).setCell ⟨gw, 4, none⟩ (.slice Au u.2.2.2.2.length cu)).heap[gw]? = some (.cells #[.int .i64 u.1, .int .i64 u.2.1, .int .i64 u.2.2.1, .int .i64 u.2.2.2.1, .slice Au u.2.2.2.2.length cu] 36 (0, 0))) := ⟨blk_put (blk_put (blk_put (blk_put (blk_put BW.out 0 _ rfl) 1 _ rfl) 2 _ rfl) 3 _ rfl) 4 _ rfl⟩
     have m2 : Aside0 ((((((w6.setCell ⟨gw, 0, none⟩ (.int .i64 u.1)).setCell ⟨gw, 1, none⟩ (.int .i64 u.2.1)).setCell ⟨gw, 2, none⟩ (.int .i64 u.2.2.1)).setCell ⟨gw, 3, none⟩ (.int .i64 u.2.2.2.1)).setCell ⟨gw, 4, none⟩ (.slice Au u.2.2.2.2.length cu)).heap[gr]? = _) := ⟨(q_ _ NRW.out).trans GR.out⟩
     have m3 : Aside0 ((((((w6.setCell ⟨gw, 0, none⟩ (.int .i64 u.1)).setCell ⟨gw, 1, none⟩ (.int .i64 u.2.1)).setCell ⟨gw, 2, none⟩ (.int .i64 u.2.2.1)).setCell ⟨gw, 3, none⟩ (.int .i64 u.2.2.2.1)).setCell ⟨gw, 4, none⟩ (.slice Au u.2.2.2.2.length cu)).heap[gx]? = _) := ⟨(q_ _ NXW.out).trans BX.out⟩
     have NFW := Aside0.mk (show gf ≠ gw from blk_ne BF.out BW.out (by decide))
     have m10 : Aside0 ((((((w6.setCell ⟨gw, 0, none⟩ (.int .i64 u.1)).setCell ⟨gw, 1, none⟩ (.int .i64 u.2.1)).setCell ⟨gw, 2, none⟩ (.int .i64 u.2.2.1)).setCell ⟨gw, 3, none⟩ (.int .i64 u.2.2.2.1)).setCell ⟨gw, 4, none⟩ (.slice Au u.2.2.2.2.length cu)).heap[gf]? = _) := ⟨(q_ _ NFW.out).trans BF.out⟩
     have m7 : Aside0 ((((((w6.setCell ⟨gw, 0, none⟩ (.int .i64 u.1)).setCell ⟨gw, 1, none⟩ (.int .i64 u.2.1)).setCell ⟨gw, 2, none⟩ (.int .i64 u.2.2.1)).setCell ⟨gw, 3, none⟩ (.int .i64 u.2.2.2.1)).setCell ⟨gw, 4, none⟩ (.slice Au u.2.2.2.2.length cu)).heap[g]? = _) := ⟨(q_ _ NGW.out).trans GG.out⟩
     have m4 := Aside0.mk (show Kd.R k36 36 (((((w6.setCell ⟨gw, 0, none⟩ (.int .i64 u.1)).setCell ⟨gw, 1, none⟩ (.int .i64 u.2.1)).setCell ⟨gw, 2, none⟩ (.int .i64 u.2.2.1)).setCell ⟨gw, 3, none⟩ (.int .i64 u.2.2.2.1)).setCell ⟨gw, 4, none⟩ (.slice Au u.2.2.2.2.length cu)) b0 _ _ _ from Kd.R_step BL.out (fun k_ hk _ => q_ k_ hk.2))
     have m5 := Aside0.mk (show Kd.R (Kd.int .u8) 5 (((((w6.setCell ⟨gw, 0, none⟩ (.int .i64 u.1)).setCell ⟨gw, 1, none⟩ (.int .i64 u.2.1)).setCell ⟨gw, 2, none⟩ (.int .i64 u.2.2.1)).setCell ⟨gw, 3, none⟩ (.int .i64 u.2.2.2.1)).setCell ⟨gw, 4, none⟩ (.slice Au u.2.2.2.2.length cu)) b0 (fun _ => True) _ _ from Kd.R_mono (Kd.R_step (Kd.R_types BD.out BW.out (by decide)) (fun k_ hk _ => q_ k_ hk.2)) (fun _ _ => trivial))
     have m8 := Aside0.mk (show Kd.R (Kd.int .u8) 5 (((((w6.setCell ⟨gw, 0, none⟩ (.int .i64 u.1)).setCell ⟨gw, 1, none⟩ (.int .i64 u.2.1)).setCell ⟨gw, 2, none⟩ (.int .i64 u.2.2.1)).setCell ⟨gw, 3, none⟩ (.int .i64 u.2.2.2.1)).setCell ⟨gw, 4, none⟩ (.slice Au u.2.2.2.2.length cu)) b0 (fun k_ => (True ∧ k_ ≠ gx) ∧ k_ ≠ g) _ _ from Kd.R_mono (Kd.R_step (Kd.R_types BUd.out BW.out (by decide)) (fun k_ hk _ => q_ k_ hk.2)) (fun _ hk => hk.1))
     have m6 : Aside0 (Below b0 w (((((w6.setCell ⟨gw, 0, none⟩ (.int .i64 u.1)).setCell ⟨gw, 1, none⟩ (.int .i64 u.2.1)).setCell ⟨gw, 2, none⟩ (.int .i64 u.2.2.1)).setCell ⟨gw, 3, none⟩ (.int .i64 u.2.2.2.1)).setCell ⟨gw, 4, none⟩ (.slice Au u.2.2.2.2.length cu))) := ⟨((((HB.out.setCell (p := ⟨gw, 0, none⟩) GWb.out _).setCell (p := ⟨gw, 1, none⟩) GWb.out _).setCell (p := ⟨gw, 2, none⟩) GWb.out _).setCell (p := ⟨gw, 3, none⟩) GWb.out _).setCell (p := ⟨gw, 4, none⟩) GWb.out _⟩
     generalize (((((w6.setCell ⟨gw, 0, none⟩ (.int .i64 u.1)).setCell ⟨gw, 1, none⟩ (.int .i64 u.2.1)).setCell ⟨gw, 2, none⟩ (.int .i64 u.2.2.1)).setCell ⟨gw, 3, none⟩ (.int .i64 u.2.2.2.1)).setCell ⟨gw, 4, none⟩ (.slice Au u.2.2.2.2.length cu)) = w7 at m1 m2 m3 m4 m5 m6 m7 m8 m10 ⊢
     clear q_ GR BX BL BD BUd HB BW GG BF
     clear hcw0 hfw0 hcw1 hfw1 hcw2 hfw2 hcw3 hfw3 hcw4 hfw4
     have BF := m10
     have BW := m1
     have GR := m2
     have BX := m3
     have BL := m4
     have BD := m5
     have HB := m6
     have GG := m7
     have BUd := m8
     clear m1 m2 m3 m4 m5 m6 m7 m8 m10
     obtain ⟨hcw0, hcw1, hcw2, hcw3, hcw4, hfw0, hfw1, hfw2, hfw3, hfw4⟩ := Cz.d5 BW
     have hcx0 : w7.cell? ⟨gx, 0, none⟩ = some ((.int .i64 a)) := (blk_cell BX.out 0).trans rfl
     have hcx1 : w7.cell? ⟨gx, 1, none⟩ = some ((.int .i64 n)) := (blk_cell BX.out 1).trans rfl
     have hcx2 : w7.cell? ⟨gx, 2, none⟩ = some ((.int .i64 (4 - k))) := (blk_cell BX.out 2).trans rfl
     have hcx3 : w7.cell? ⟨gx, 3, none⟩ = some ((.int .i64 0)) := (blk_cell BX.out 3).trans rfl
     have hcx4 : w7.cell? ⟨gx, 4, none⟩ = some ((.slice Ad d.length cd)) := (blk_cell BX.out 4).trans rfl
     have hfx0 := blk_frozen BX.out 0
     have hfx1 := blk_frozen BX.out 1
     have hfx2 := blk_frozen BX.out 2
     have hfx3 := blk_frozen BX.out 3
     have hfx4 := blk_frozen BX.out 4
     go_upto_region 16 with (first | (go_at_call 81; refine (extent_Join.calls _ _ _ _ _ _ u.2.2.2.2 _ _ _ _ _ _ d _ _ _ _ _ _ _ (Kd.R_reads' BUd.out).2.2 (Kd.R_reads' BUd.out).2.1 (Kd.R_reads' BD.out).2.2 (Kd.R_reads' BD.out).2.1 HJ.out).mono ?_; rintro e' w8 ⟨vj, rfl, ho, hb⟩; obtain ⟨Aj, cj, ej⟩ := Kd.R_slice ho; subst ej; have BJ := Aside0.mk (Kd.R_lower ho (Nat.le_trans HS0.out HB.out.size)); have m_BW := Aside0.mk (blk_below BW.out hb); have m_BF := Aside0.mk (blk_below BF.out hb); have m_BX := Aside0.mk (blk_below BX.out hb); have m_GG := Aside0.mk (blk_below GG.out hb); have m_GR := Aside0.mk (blk_below GR.out hb); have m_BL := Aside0.mk (Kd.R_below BL.out hb); have m_BD := Aside0.mk (Kd.R_below BD.out hb); have m_HB := Aside0.mk (below_then HB.out (Nat.le_trans HS0.out HB.out.size) hb); clear BW BF BX GG GR BL BD HB; have BW := m_BW; have BF := m_BF; have BX := m_BX; have GG := m_GG; have GR := m_GR; have BL := m_BL; have BD := m_BD; have HB := m_HB; clear m_BW m_BF m_BX m_GG m_GR m_BL m_BD m_HB; clear ho hb BUd) | ((with_reducible refine gate_dst (N := 10) rfl ?_); refine Cz.bx (N := 10) #[.int .i64 0, .int .i64 0, .int .i64 0, .int .i64 0, .slice none 0 0] 36 ?_; intro gy hg w9 hbox hb; have GYb := Aside0.mk (Nat.le_trans (Nat.le_trans HS0.out HB.out.size) (Nat.le_of_eq hg.symm)); have BE := Aside0.mk (Kd.R_below (Kd.R_elderB BL.out gy (Nat.le_of_eq hg.symm)) hb); have NWY := Aside0.mk (show gw ≠ gy from Nat.ne_of_lt (Nat.lt_of_lt_of_le (blk_lt BW.out) (Nat.le_of_eq hg.symm))); have NGY := Aside0.mk (show g ≠ gy from Nat.ne_of_lt (Nat.lt_of_lt_of_le (blk_lt GG.out) (Nat.le_of_eq hg.symm))); have NXY := Aside0.mk (show gx ≠ gy from Nat.ne_of_lt (Nat.lt_of_lt_of_le (blk_lt BX.out) (Nat.le_of_eq hg.symm))); have m_BX := Aside0.mk (blk_below BX.out hb); have m_BW := Aside0.mk (blk_below BW.out hb); have m_BF := Aside0.mk (blk_below BF.out hb); have m_GG := Aside0.mk (blk_below GG.out hb); have m_BJ := Aside0.mk (Kd.R_below BJ.out hb); have m_GR := Aside0.mk (blk_below GR.out hb); have m_BD := Aside0.mk (Kd.R_below BD.out hb); have m_HB := Aside0.mk (below_then HB.out (Nat.le_trans HS0.out HB.out.size) hb); clear BX BW BF GG BJ GR BD HB; have BX := m_BX; have BW := m_BW; have BF := m_BF; have GG := m_GG; have BJ := m_BJ; have GR := m_GR; have BD := m_BD; have HB := m_HB; clear m_BX m_BW m_BF m_GG m_BJ m_GR m_BD m_HB; clear BL hg; have BL := BE; clear BE; have BY := Aside0.mk hbox; clear hbox hb; obtain ⟨hcy0, hcy1, hcy2, hcy3, hcy4, hfy0, hfy1, hfy2, hfy3, hfy4⟩ := Cz.d5 BY))
     have q_ : ∀ k_, k_ ≠ gy → (((((w9.setCell ⟨gy, 0, none⟩ (.int .i64 0)).setCell ⟨gy, 1, none⟩ (.int .i64 0)).setCell ⟨gy, 2, none⟩ (.int .i64 0)).setCell ⟨gy, 3, none⟩ (.int .i64 0)).setCell ⟨gy, 4, none⟩ (.slice Aj 0 cj)).heap[k_]? = w9.heap[k_]? := fun k_ hk => (Below.heap_setCell _ ⟨gy, 4, none⟩ _ k_ hk).trans ((Below.heap_setCell _ ⟨gy, 3, none⟩ _ k_ hk).trans ((Below.heap_setCell _ ⟨gy, 2, none⟩ _ k_ hk).trans ((Below.heap_setCell _ ⟨gy, 1, none⟩ _ k_ hk).trans ((Below.heap_setCell _ ⟨gy, 0, none⟩ _ k_ hk).trans (rfl)))))
     have NRY := Aside0.mk (show gr ≠ gy from blk_ne GR.out BY.out (by decide))
     have NFY := Aside0.mk (show gf ≠ gy from blk_ne BF.out BY.out (by decide))
     have m1 : Aside0 ((((((w9.setCell ⟨gy, 0, none⟩ (.int .i64 0)).setCell ⟨gy, 1, none⟩ (.int .i64 0)).setCell ⟨gy, 2, none⟩ (.int .i64 0)).setCell ⟨gy, 3, none⟩ (.int .i64 0)).setCell ⟨gy, 4, none⟩ (.slice Aj 0 cj)).heap[gy]? = some (.cells #[.int .i64 0, .int .i64 0, .int .i64 0, .int .i64 0, .slice Aj 0 cj] 36 (0, 0))) := ⟨blk_put (blk_put (blk_put (blk_put (blk_put BY.out 0 _ rfl) 1 _ rfl) 2 _ rfl) 3 _ rfl) 4 _ rfl⟩
     have m2 : Aside0 ((((((w9.setCell ⟨gy, 0, none⟩ (.int .i64 0)).setCell ⟨gy, 1, none⟩ (.int .i64 0)).setCell ⟨gy, 2, none⟩ (.int .i64 0)).setCell ⟨gy, 3, none⟩ (.int .i64 0)).setCell ⟨gy, 4, none⟩ (.slice Aj 0 cj)).heap[gr]? = _) := ⟨(q_ _ NRY.out).trans GR.out⟩
     have m3 : Aside0 ((((((w9.setCell ⟨gy, 0, none⟩ (.int .i64 0)).setCell ⟨gy, 1, none⟩ (.int .i64 0)).setCell ⟨gy, 2, none⟩ (.int .i64 0)).setCell ⟨gy, 3, none⟩ (.int .i64 0)).setCell ⟨gy, 4, none⟩ (.slice Aj 0 cj)).heap[gw]? = _) := ⟨(q_ _ NWY.out).trans BW.out⟩
     have m7 : Aside0 ((((((w9.setCell ⟨gy, 0, none⟩ (.int .i64 0)).setCell ⟨gy, 1, none⟩ (.int .i64 0)).setCell ⟨gy, 2, none⟩ (.int .i64 0)).setCell ⟨gy, 3, none⟩ (.int .i64 0)).setCell ⟨gy, 4, none⟩ (.slice Aj 0 cj)).heap[g]? = _) := ⟨(q_ _ NGY.out).trans GG.out⟩
     have m9 : Aside0 ((((((w9.setCell ⟨gy, 0, none⟩ (.int .i64 0)).setCell ⟨gy, 1, none⟩ (.int .i64 0)).setCell ⟨gy, 2, none⟩ (.int .i64 0)).setCell ⟨gy, 3, none⟩ (.int .i64 0)).setCell ⟨gy, 4, none⟩ (.slice Aj 0 cj)).heap[gx]? = _) := ⟨(q_ _ NXY.out).trans BX.out⟩
     have m10 : Aside0 ((((((w9.setCell ⟨gy, 0, none⟩ (.int .i64 0)).setCell ⟨gy, 1, none⟩ (.int .i64 0)).setCell ⟨gy, 2, none⟩ (.int .i64 0)).setCell ⟨gy, 3, none⟩ (.int .i64 0)).setCell ⟨gy, 4, none⟩ (.slice Aj 0 cj)).heap[gf]? = _) := ⟨(q_ _ NFY.out).trans BF.out⟩
     have m4 := Aside0.mk (show Kd.R k36 36 (((((w9.setCell ⟨gy, 0, none⟩ (.int .i64 0)).setCell ⟨gy, 1, none⟩ (.int .i64 0)).setCell ⟨gy, 2, none⟩ (.int .i64 0)).setCell ⟨gy, 3, none⟩ (.int .i64 0)).setCell ⟨gy, 4, none⟩ (.slice Aj 0 cj)) b0 (fun k_ => True ∧ k_ ≠ gx) _ _ from Kd.R_mono (Kd.R_step BL.out (fun k_ hk _ => q_ k_ hk.2)) (fun _ hk => ⟨trivial, hk.1.1.2⟩))
     have m5 := Aside0.mk (show Kd.R (Kd.int .u8) 5 (((((w9.setCell ⟨gy, 0, none⟩ (.int .i64 0)).setCell ⟨gy, 1, none⟩ (.int .i64 0)).setCell ⟨gy, 2, none⟩ (.int .i64 0)).setCell ⟨gy, 3, none⟩ (.int .i64 0)).setCell ⟨gy, 4, none⟩ (.slice Aj 0 cj)) b0 (fun _ => True) _ _ from Kd.R_mono (Kd.R_step (Kd.R_types BJ.out BY.out (by decide)) (fun k_ hk _ => q_ k_ hk.2)) (fun _ _ => trivial))
     have m8 := Aside0.mk (show Kd.R (Kd.int .u8) 5 (((((w9.setCell ⟨gy, 0, none⟩ (.int .i64 0)).setCell ⟨gy, 1, none⟩ (.int .i64 0)).setCell ⟨gy, 2, none⟩ (.int .i64 0)).setCell ⟨gy, 3, none⟩ (.int .i64 0)).setCell ⟨gy, 4, none⟩ (.slice Aj 0 cj)) b0 (fun _ => True) _ _ from Kd.R_mono (Kd.R_step (Kd.R_types BD.out BY.out (by decide)) (fun k_ hk _ => q_ k_ hk.2)) (fun _ _ => trivial))
     have m6 : Aside0 (Below b0 w (((((w9.setCell ⟨gy, 0, none⟩ (.int .i64 0)).setCell ⟨gy, 1, none⟩ (.int .i64 0)).setCell ⟨gy, 2, none⟩ (.int .i64 0)).setCell ⟨gy, 3, none⟩ (.int .i64 0)).setCell ⟨gy, 4, none⟩ (.slice Aj 0 cj))) := ⟨((((HB.out.setCell (p := ⟨gy, 0, none⟩) GYb.out _).setCell (p := ⟨gy, 1, none⟩) GYb.out _).setCell (p := ⟨gy, 2, none⟩) GYb.out _).setCell (p := ⟨gy, 3, none⟩) GYb.out _).setCell (p := ⟨gy, 4, none⟩) GYb.out _⟩
     generalize (((((w9.setCell ⟨gy, 0, none⟩ (.int .i64 0)).setCell ⟨gy, 1, none⟩ (.int .i64 0)).setCell ⟨gy, 2, none⟩ (.int .i64 0)).setCell ⟨gy, 3, none⟩ (.int .i64 0)).setCell ⟨gy, 4, none⟩ (.slice Aj 0 cj)) = w10 at m1 m2 m3 m4 m5 m6 m7 m8 m9 m10 ⊢
     clear q_ GR BX BF BD BL BJ HB BW GG BY
     clear hcy0 hfy0 hcy1 hfy1 hcy2 hfy2 hcy3 hfy3 hcy4 hfy4
     have BY := m1
     have GR := m2
     have BW := m3
     have BL := m4
     have BJ := m5
     have HB := m6
     have GG := m7
     have BD := m8
     have BX := m9
     have BF := m10
     clear m1 m2 m3 m4 m5 m6 m7 m8 m9 m10
     go_upto_region 19 with (fail)
     have m_GR := Aside0.mk (blk_drew GR.out)
     have m_BX := Aside0.mk (blk_drew BX.out)
     have m_BF := Aside0.mk (blk_drew BF.out)
     have m_BW := Aside0.mk (blk_drew BW.out)
     have m_BL := Aside0.mk (Kd.R_drew BL.out)
     have m_BD := Aside0.mk (Kd.R_drew BD.out)
     have m_HB := Aside0.mk (below_drew HB.out)
     clear GR BX BF BW BL BD HB
     have GR := m_GR
     have BX := m_BX
     have BF := m_BF
     have BW := m_BW
     have BL := m_BL
     have BD := m_BD
     have HB := m_HB
     clear m_GR m_BX m_BF m_BW m_BL m_BD m_HB
     refine start_ (n := 13) (S := fun w' => w'.cell? ⟨gx, 0, none⟩ = some (.int .i64 a) ∧ w'.cell? ⟨gx, 1, none⟩ = some (.int .i64 n) ∧ w'.cell? ⟨gx, 2, none⟩ = some (.int .i64 (4 - k)) ∧ w'.cell? ⟨gx, 3, none⟩ = some (.int .i64 0) ∧ w'.cell? ⟨gx, 4, none⟩ = some (.slice Ad d.length cd) ∧ w'.cell? ⟨gr, 3, none⟩ = some (.slice (some ⟨g, 0, none⟩) m cv)) (ds := [12]) #[false, false, false, false, false, false, false, false, false, false, false, false, false] (by kernel_rfl) rfl rfl ⟨((blk_cell (BX.out) 0).trans rfl), ((blk_cell (BX.out) 1).trans rfl), ((blk_cell (BX.out) 2).trans rfl), ((blk_cell (BX.out) 3).trans rfl), ((blk_cell (BX.out) 4).trans rfl), ((blk_cell GR.out 3).trans rfl)⟩ (fun hHeld => ?_)
     generalize w10.drew = w11 at GR BX BF BW BL BD HB hHeld ⊢
     refine Cz.rP 0 97 ?_
     refine Cz.rP 1 98 ?_
     refine Cz.rP 2 99 ?_
     refine Cz.rP 3 100 ?_
     refine Cz.rP 4 101 ?_
     refine Cz.rT 5 102 hHeld ?_
     refine Cz.rT 6 103 hHeld ?_
     refine Cz.rO (N := some 104) 7 (fun K hK => ?_)
     refine value_ (w1 := ?_) (v := ?_) (by rfl) rfl ?_ ?_
     rotate_left 2
     ·go_simp
      constructor
      ·rfl
      ·rfl
     refine hK.out _ _ ⟨((blk_cell (blk_alloc BX.out _) 0).trans rfl), ((blk_cell (blk_alloc BX.out _) 1).trans rfl), ((blk_cell (blk_alloc BX.out _) 2).trans rfl), ((blk_cell (blk_alloc BX.out _) 3).trans rfl), ((blk_cell (blk_alloc BX.out _) 4).trans rfl), ((blk_cell (blk_alloc GR.out _) 3).trans rfl)⟩ (fun hHeld => ?_)
     clear hK K
     refine Cz.nm (some 104) ?_
     refine Cz.rO (N := some 105) 8 (fun K hK => ?_)
     refine Kd.R_append_step k36 (w0 := w) b0 (by rfl) (.tmp 102) (.tmp 104) 22 36 (.agg #[(.int .i64 0), (.int .i64 0), (.int .i64 0), (.int .i64 0), (.slice none 0 0)]) 56 rfl Try.underlying22 info36 rfl (by decide) (by omega) (.slice (some ⟨g, 0, none⟩) m cv) ((M ++ [u]).map ofE) (ofE (Pl.exOf (k, a, n, d, x, y, z))) [.int .i64 a, .int .i64 n, .int .i64 (4 - k), .int .i64 0, .slice Ad d.length cd] (fun k_ => True ∧ k_ ≠ gx) (fun k_ => (True ∧ k_ ≠ gx) ∧ some k_ ≠ (.slice (some ⟨g, 0, none⟩) m cv : Value).ownBlock) rfl rfl ?aP (fun _ hk => hk) ?aF BL.out HB.out (Nat.le_trans HS0.out HB.out.size) ?aL ?_
     (case aP => exact k36_mkM _ _ _ (ofE (Pl.exOf (k, a, n, d, x, y, z))) (blk_apart (Kd.R_types BD.out BX.out (by decide)) BL.out (by decide)))
     (case aF => exact fun k_ hk => ⟨trivial, Nat.ne_of_gt (Nat.lt_of_lt_of_le (blk_lt BX.out) hk)⟩)
     (case aL => have := NN.out; simp only [List.length_append, List.length_map, List.length_cons, List.length_nil] at this ⊢; omega)
     intro v1 w12 ho hb hg hat
     obtain ⟨A1, c1, e1⟩ := Kd.R_slice ho
     subst e1
     have m_GR := Aside0.mk (blk_grown GR.out hg (Kd.R_ne BL.out GR.out (by decide)))
     have m_BX := Aside0.mk (blk_grown BX.out hg (fun he => (BL.out.1 gx he.symm).2 rfl))
     have m_HB := Aside0.mk (hb)
     have m_BL := Aside0.mk (ho)
     have m_BF := Aside0.mk (blk_grown BF.out hg (Kd.R_ne BL.out BF.out (by decide)))
     have m_BW := Aside0.mk (blk_grown BW.out hg (fun he => NGW.out (Option.some.inj he).symm))
     clear GR BX HB BL BF BW
     have GR := m_GR
     have BX := m_BX
     have HB := m_HB
     have BL := m_BL
     have BF := m_BF
     have BW := m_BW
     clear m_GR m_BX m_HB m_BL m_BF m_BW
     clear ho hb hg hat BD
     have hcr0 : w12.cell? ⟨gr, 3, none⟩ = some (.slice (some ⟨g, 0, none⟩) m cv) := ((blk_cell GR.out 3).trans rfl)
     have hfr0 := blk_frozen GR.out 3
     refine hK.out _ _ ⟨((blk_cell (BX.out) 0).trans rfl), ((blk_cell (BX.out) 1).trans rfl), ((blk_cell (BX.out) 2).trans rfl), ((blk_cell (BX.out) 3).trans rfl), ((blk_cell (BX.out) 4).trans rfl), ((blk_cell GR.out 3).trans rfl)⟩ (fun hHeld => ?_)
     clear hK K
     refine Cz.nm (some 105) ?_
     refine Cz.rP 9 106 ?_
     refine Cz.rP 10 107 ?_
     refine Cz.rP 11 108 ?_
     refine Cz.rL (N := none) 12 (fun K hK => ?_)
     refine skip_ (w1 := ?_) (by rfl) rfl ?_ ?_
     rotate_left
     ·go_simp
      rfl
     refine hK.out _ _ ?_
     clear hK K
     refine done_ (by kernel_rfl) ?_
     have hlen : ((M ++ [u]).map ofE ++ [ofE (Pl.exOf (k, a, n, d, x, y, z))]).length = M.length + 2 := by simp
     rw [hlen] at BL
     clear hlen
     have hmap : (M ++ [u]).map ofE ++ [ofE (Pl.exOf (k, a, n, d, x, y, z))] = (M ++ [u] ++ [Pl.exOf (k, a, n, d, x, y, z)]).map ofE := by simp
     rw [hmap] at BL
     clear hmap
     have m4 : Aside0 (Kd.R k36 36 (w12.setCell ⟨gr, 3, none⟩ (.slice A1 (M.length + 2) c1)) b0 (fun _ => True) (.slice A1 (M.length + 2) c1) ((M ++ [u] ++ [Pl.exOf (k, a, n, d, x, y, z)]).map ofE)) := ⟨Kd.R_mono (Kd.R_far (p := ⟨gr, 3, none⟩) (Kd.R_types BL.out GR.out (by decide)) (fun _ hk => hk.2) _) (fun _ _ => trivial)⟩
     have m2 : Aside0 ((w12.setCell ⟨gr, 3, none⟩ (.slice A1 (M.length + 2) c1)).heap[gr]? = some (.cells #[.int .i64 B, .int .i64 P, .int .i64 T, .slice A1 (M.length + 2) c1, .int .i64 many, .bool done] 62 (0, 0))) := ⟨blk_put GR.out 3 _ rfl⟩
     have m10 : Aside0 ((w12.setCell ⟨gr, 3, none⟩ (.slice A1 (M.length + 2) c1)).heap[gf]? = _) := ⟨blk_far BF.out (p := ⟨gr, 3, none⟩) (blk_ne BF.out GR.out (by decide)) _⟩
     have m3 : Aside0 ((w12.setCell ⟨gr, 3, none⟩ (.slice A1 (M.length + 2) c1)).heap[gw]? = _) := ⟨blk_far BW.out (p := ⟨gr, 3, none⟩) (blk_ne BW.out GR.out (by decide)) _⟩
     have m6 : Aside0 (Below b0 w (w12.setCell ⟨gr, 3, none⟩ (.slice A1 (M.length + 2) c1))) := ⟨HB.out.setCell (p := ⟨gr, 3, none⟩) B1.out _⟩
     generalize (w12.setCell ⟨gr, 3, none⟩ (.slice A1 (M.length + 2) c1)) = w13 at m2 m3 m4 m6 m10 ⊢
     clear GR BX BF BW BL HB hHeld hcr0 hfr0
     have hcf1 : w13.cell? ⟨gf, 1, none⟩ = some (.int .i64 a) := ((blk_cell m10.out 1).trans rfl)
     have hcw0 : w13.cell? ⟨gw, 0, none⟩ = some (.int .i64 u.1) := ((blk_cell m3.out 0).trans rfl)
     have hcw1 : w13.cell? ⟨gw, 1, none⟩ = some (.int .i64 u.2.1) := ((blk_cell m3.out 1).trans rfl)
     have hw2 : wrap64 (u.1 + u.2.1) = u.1 + u.2.1 := by have := Pl.extOk_iff.1 (show Pl.extOk u.1 u.2.1 u.2.2.1 u.2.2.2.1 u.2.2.2.2 = true from EE.out u (by simp)); unfold wrap64; omega
     by_cases cu0 : u.1 + u.2.1 ≤ a
     ·have SN := Aside0.mk (show Pl.stepS B (M ++ [u]) (k, a, n, d, x, y, z) = some (M ++ [u] ++ [Pl.exOf (k, a, n, d, x, y, z)]) from (Pl.stepS_snoc _ _ _ _).trans ((if_neg (by have := C1.out; dsimp only; omega)).trans ((if_neg CJ.out).trans (if_pos cu0))))
      have hk2 : decide (u.1 + u.2.1 ≤ a) = true := decide_eq_true cu0
      go_wp2
      refine bodyPost_ret (results_tmp rfl _ _ _) rfl ?_
      exact ⟨.inl ⟨_, SN.out, rfl, _, m2.out, m4.out⟩, m6.out⟩
     ·have SN := Aside0.mk (show Pl.stepS B (M ++ [u]) (k, a, n, d, x, y, z) = none from (Pl.stepS_snoc _ _ _ _).trans ((if_neg (by have := C1.out; dsimp only; omega)).trans ((if_neg CJ.out).trans (if_neg cu0))))
      have hk2 : decide (u.1 + u.2.1 ≤ a) = false := decide_eq_false cu0
      go_wp2
      refine bodyPost_ret (results_tmp rfl _ _ _) rfl ?_
      exact ⟨.inr ⟨SN.out, rfl⟩, m6.out⟩
end Go.Proofs.Ytohkmmbmfhficaa.PT
