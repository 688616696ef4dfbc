/- Words and walks that this claim names, of those that the kit's print and programs of this workplace have printed. -/
import Derived.Test.YtohkmmbmfhficaaZTCz
import Derived.Test.YtohkmmbmfhficaaZTPTx5
import Derived.Test.YtohkmmbmfhficaaZTPTx55
import Derived.Test.YtohkmmbmfhficaaZTPTx62
import Derived.Test.YtohkmmbmfhficaaZTPTx68
namespace Go.Proofs.Ytohkmmbmfhficaa.PT
open Go.Proofs.Ytohkmmbmfhficaa Go.RowKit Go.Proofs.YtohkmmbmfhficaaW.PrintWords Go.Proofs.YtohkmmbmfhficaaW.PrintLast Go.Proofs.YtohkmmbmfhficaaW.PrintMore
attribute [local go_sem] max2_int min2_int max_two min_two max_three min_three max_four min_four
set_option linter.unusedVariables false
set_option linter.unusedSimpArgs false
def waggonerlaw17_awake_p.f  : Option (Bool) := (stream_Write.f 8 0 1 ([] : List (S36))).bind fun bt246 => ((stream_Read.f bt246.1).bind fun bt250 => ((stream_Write.f 0 0 0 ([] : List (S36))).bind fun bt258 => ((stream_Read.f ([] : List Int)).bind fun bt262 => ((stream_Begin.f ([] : List Int)).bind fun bt270 => (if (bt246.1.length : Int) = 29 then (if 20 ≤ (bt246.1.length : Int) then ((stream_Begin.f (bt246.1.take 20)).bind fun bt282 => ((waggonerref17_Same.f 8 0 1 ([] : List (S36)) bt250.1 bt250.2.1 bt250.2.2.1 bt250.2.2.2.1).bind fun t290 => (if bt246.2 = 0 then (if t290 = true then (if bt250.2.2.2.2 = 0 then (if bt258.2 = 170 then (if bt262.2.2.2.2 = 170 then (if bt270.2.2.2.2 = 161 then (if bt282.2.2.2.2 = 161 then (if bt282.1 = 8 then ((stream_Check.f 8 0 1 ([] : List (S36))).bind fun t291 => (if t291 = true then (some true) else (some false))) else (some false)) else (some false)) else (some false)) else (some false)) else (some false)) else (some false)) else (some false)) else (some false)))) else (none)) else (some false))))))
set_option maxHeartbeats 8000000 in
set_option maxRecDepth 100000 in
theorem waggonerlaw17_awake_p.calls  (r : Bool) (hT : r = true) (w : World) (h : waggonerlaw17_awake_p.f  = some r) :
  Calls Try.prog 14 #[] w fun e w' => e = .returned (.bool r) ∧ Below w.heap.size w w' := by
 subst hT
 have hu0 := Try.underlying24
 have HB := Aside0.mk (Below.refl w.heap.size w)
 have H : ((stream_Write.f 8 0 1 ([] : List (S36))).bind fun bt0 => ((stream_Read.f bt0.1).bind fun bt1 => ((stream_Write.f 0 0 0 ([] : List (S36))).bind fun bt2 => ((stream_Read.f ([] : List Int)).bind fun bt3 => ((stream_Begin.f ([] : List Int)).bind fun bt4 => (if (bt0.1.length : Int) = 29 then (if 20 ≤ (bt0.1.length : Int) then ((stream_Begin.f (bt0.1.take 20)).bind fun bt5 => ((waggonerref17_Same.f 8 0 1 ([] : List (S36)) bt1.1 bt1.2.1 bt1.2.2.1 bt1.2.2.2.1).bind fun t0 => (if bt0.2 = 0 then (if t0 = true then (if bt1.2.2.2.2 = 0 then (if bt2.2 = 170 then (if bt3.2.2.2.2 = 170 then (if bt4.2.2.2.2 = 161 then (if bt5.2.2.2.2 = 161 then (if bt5.1 = 8 then ((stream_Check.f 8 0 1 ([] : List (S36))).bind fun t1 => (if t1 = true then (some true) else (some false))) else (some false)) else (some false)) else (some false)) else (some false)) else (some false)) else (some false)) else (some false)) else (some false)))) else (none)) else (some false))))))) = some true := h
 clear h
 replace H := Option.bind_eq_some_iff.mp H
 obtain ⟨⟨t2, t3⟩, A0, H⟩ := H
 (try dsimp only at H)
 have A1 := Aside0.mk A0
 clear A0
 replace H := Option.bind_eq_some_iff.mp H
 obtain ⟨⟨t4, t5, t6, t7, t8⟩, A6, H⟩ := H
 (try dsimp only at H)
 have A2 := Aside0.mk A6
 clear A6
 replace H := Option.bind_eq_some_iff.mp H
 obtain ⟨⟨t9, t10⟩, A7, H⟩ := H
 (try dsimp only at H)
 have A3 := Aside0.mk A7
 clear A7
 replace H := Option.bind_eq_some_iff.mp H
 obtain ⟨⟨t11, t12, t13, t14, t15⟩, A8, H⟩ := H
 (try dsimp only at H)
 have A4 := Aside0.mk A8
 clear A8
 replace H := Option.bind_eq_some_iff.mp H
 obtain ⟨⟨t16, t17, t18, t19, t20⟩, A9, H⟩ := H
 (try dsimp only at H)
 have A5 := Aside0.mk A9
 clear A9
 by_cases c6 : (t2.length : Int) = 29
 rotate_left
 ·rw [if_neg c6] at H
  first | exact absurd H (by simp; done) | skip
 rw [if_pos c6] at H
 have c6b0 : ((t2.length : Int) == 29) = true := beq_iff_eq.mpr c6
 have c6b1 : ((t2.length : Int) != 29) = false := bne_eq_false_iff_eq.mpr c6
 clear c6
 by_cases c7 : 20 ≤ (t2.length : Int)
 rotate_left
 ·rw [if_neg c7] at H
  exact absurd H (by simp)
 rw [if_pos c7] at H
 have c7b0 := eq_true c7
 have c7b1 : decide (20 ≤ (t2.length : Int)) = true := decide_eq_true c7
 clear c7
 obtain ⟨y0, hy0⟩ : ∃ y_ : List Int, y_ = (t2.take 20) := ⟨_, rfl⟩
 replace H : ((stream_Begin.f y0).bind fun bt5 => ((waggonerref17_Same.f 8 0 1 ([] : List (S36)) t4 t5 t6 t7).bind fun t0 => (if t3 = 0 then (if t0 = true then (if t8 = 0 then (if t10 = 170 then (if t15 = 170 then (if t20 = 161 then (if bt5.2.2.2.2 = 161 then (if bt5.1 = 8 then ((stream_Check.f 8 0 1 ([] : List (S36))).bind fun t1 => (if t1 = true then (some true) else (some false))) else (some false)) else (some false)) else (some false)) else (some false)) else (some false)) else (some false)) else (some false)) else (some false)))) = some true := by first | (rw [hy0]; with_reducible exact H) | (have H0_ := (Option.bind_some _ _).symm.trans H; rw [hy0]; with_reducible exact H0_) | (have H0_ := (Option.bind_some _ _).symm.trans H; with_reducible exact H0_) | with_reducible exact H | (rw [hy0]; exact H) | exact H
 have Ny0 := Aside0.mk hy0
 clear hy0
 replace H := Option.bind_eq_some_iff.mp H
 obtain ⟨⟨t21, t22, t23, t24, t25⟩, A10, H⟩ := H
 (try dsimp only at H)
 have A11 := Aside0.mk A10
 clear A10
 replace H := Option.bind_eq_some_iff.mp H
 obtain ⟨t0, A12, H⟩ := H
 (try dsimp only at H)
 have A13 := Aside0.mk A12
 clear A12
 by_cases c10 : t3 = 0
 rotate_left
 ·rw [if_neg c10] at H
  first | exact absurd H (by simp; done) | skip
 rw [if_pos c10] at H
 have c10b0 : (t3 == 0) = true := beq_iff_eq.mpr c10
 have c10b1 : (t3 != 0) = false := bne_eq_false_iff_eq.mpr c10
 clear c10
 by_cases c11 : t0 = true
 focus
  subst c11
  rw [if_pos rfl] at H
  by_cases c12 : t8 = 0
  rotate_left
  ·rw [if_neg c12] at H
   first | exact absurd H (by simp; done) | skip
  rw [if_pos c12] at H
  have c12b0 : (t8 == 0) = true := beq_iff_eq.mpr c12
  have c12b1 : (t8 != 0) = false := bne_eq_false_iff_eq.mpr c12
  clear c12
  by_cases c13 : t10 = 170
  rotate_left
  ·rw [if_neg c13] at H
   first | exact absurd H (by simp; done) | skip
  rw [if_pos c13] at H
  have c13b0 : (t10 == 170) = true := beq_iff_eq.mpr c13
  have c13b1 : (t10 != 170) = false := bne_eq_false_iff_eq.mpr c13
  clear c13
  by_cases c14 : t15 = 170
  rotate_left
  ·rw [if_neg c14] at H
   first | exact absurd H (by simp; done) | skip
  rw [if_pos c14] at H
  have c14b0 : (t15 == 170) = true := beq_iff_eq.mpr c14
  have c14b1 : (t15 != 170) = false := bne_eq_false_iff_eq.mpr c14
  clear c14
  by_cases c15 : t20 = 161
  rotate_left
  ·rw [if_neg c15] at H
   first | exact absurd H (by simp; done) | skip
  rw [if_pos c15] at H
  have c15b0 : (t20 == 161) = true := beq_iff_eq.mpr c15
  have c15b1 : (t20 != 161) = false := bne_eq_false_iff_eq.mpr c15
  clear c15
  by_cases c16 : t25 = 161
  rotate_left
  ·rw [if_neg c16] at H
   first | exact absurd H (by simp; done) | skip
  rw [if_pos c16] at H
  have c16b0 : (t25 == 161) = true := beq_iff_eq.mpr c16
  have c16b1 : (t25 != 161) = false := bne_eq_false_iff_eq.mpr c16
  clear c16
  by_cases c17 : t21 = 8
  rotate_left
  ·rw [if_neg c17] at H
   first | exact absurd H (by simp; done) | skip
  rw [if_pos c17] at H
  have c17b0 : (t21 == 8) = true := beq_iff_eq.mpr c17
  have c17b1 : (t21 != 8) = false := bne_eq_false_iff_eq.mpr c17
  clear c17
  replace H := Option.bind_eq_some_iff.mp H
  obtain ⟨t1, A14, H⟩ := H
  (try dsimp only at H)
  have A15 := Aside0.mk A14
  clear A14
  by_cases c19 : t1 = true
  ·subst c19
   rw [if_pos rfl] at H
   (have HRT := Aside0.mk (Option.some.inj H); clear H)
   go_enter Try.func14, Try.ntmps14
   go_wp2_with (first | ((with_reducible refine gate_dst (N := 1) rfl ?_); refine Cz.bx (N := 1) #[.int .i64 0, .int .i64 0, .int .i64 0, .slice none 0 0] 24 ?_; intro gb0 hg w0 hbox hb; have BK0 := Aside0.mk (hbox); have GW0 := Aside0.mk ((Cz.gs hg : w.heap.size ≤ gb0)); have GE0 := GW0; replace HB := Cz.bs (w := w) hb; clear hb hbox hg; obtain ⟨z0_0, z0_1, z0_2, z0_3, y1_0, y1_1, y1_2, y1_3⟩ := Cz.d4 BK0) | ((with_reducible refine gate_callee (f := 15) rfl ?_); refine Cz.gL (N := (some 18)) Try.func15 #[.agg #[.int .i64 8, .int .i64 0, .int .i64 1, .slice none 0 0]] ?_; (refine (stream_Write.calls 8 0 1 _ _ ([] : List (S36)) t2 t3 _ ?side0 ?side1 A1.out).mono ?_); (case side0 => exact Kd.C_nil _ _); (case side1 => exact Nat.le_refl _); rintro e w2 ⟨v0, rfl, ho0, hb⟩; refine ⟨_, rfl, ?_⟩; have HO0 := Aside0.mk (Kd.R_lower ho0 (below_size (Cz.bl (w := w)))); replace BK0 := Aside0.mk (blk_below (g := gb0) (o := .cells #[.int .i64 8, .int .i64 0, .int .i64 1, .slice none 0 0] 24 (0, 0)) (by (with_reducible repeat (first | refine blk_drewN ?_ _ | refine blk_drew ?_ | refine blk_alloc ?_ _)); apply Cz.a4; (with_reducible repeat (first | refine blk_drewN ?_ _ | refine blk_drew ?_ | refine blk_alloc ?_ _)); exact BK0.out) hb); replace HB := Cz.bs (w := w) hb; (try clear hb); (try clear ho0); obtain ⟨Ao0, co0, eo0⟩ := Kd.R_slice HO0.out; subst eo0) | ((with_reducible refine gate_callee (f := 28) rfl ?_); refine Cz.gL (N := (some 23)) Try.func28 #[.slice Ao0 t2.length co0] ?_; (with_reducible refine (stream_Read.calls _ _ t2 t4 t5 t6 t7 t8 _ ?side0 ?side1 A2.out).mono ?_); (case side0 => repeat (first | exact (Kd.R_reads' HO0.out).2.2 | (with_reducible refine Kd.C_alloc ?_ _) | (with_reducible refine Kd.C_drewN ?_ _) | (with_reducible refine Kd.C_drew ?_))); (case side1 => exact (Kd.R_reads' HO0.out).2.1); rintro e w3 ⟨v1, rfl, ho0, hb⟩; refine ⟨_, rfl, ?_⟩; have HO1 := Aside0.mk (Kd.R_lower (Kd.R_new' ho0 (Kd.R_lt (by (with_reducible repeat (first | apply Kd.R_alloc | apply Kd.R_drewN | apply Kd.R_drew)); exact HO0.out))) (below_size (Cz.bl (w := w)))); replace HO0 := Cz.rb HO0 hb; replace BK0 := Cz.bk BK0 hb; replace HB := Cz.bs (w := w) hb; (try clear hb); (try clear ho0)) | ((with_reducible refine gate_dst (N := 4) rfl ?_); refine Cz.bx (N := 4) #[.int .i64 0, .int .i64 0, .int .i64 0, .slice none 0 0] 24 ?_; intro gb1 hg w4 hbox hb; have BK1 := Aside0.mk (hbox); have GW1 := Aside0.mk ((Cz.gs hg : w.heap.size ≤ gb1)); have GE1 := GW1; have NB0_257 := Aside0.mk ((Cz.nl BK0 hg : gb0 ≠ gb1)); have NB1_245 := Aside0.mk ((Cz.nr BK0 hg : gb1 ≠ gb0)); replace HO0 := Cz.rb HO0 hb; replace HO1 := Cz.rb HO1 hb; replace BK0 := Cz.bk BK0 hb; replace HB := Cz.bs (w := w) hb; clear hb hbox hg; have hnb0 := NB1_245.out; have hnc0 := NB0_257.out; obtain ⟨z1_0, z1_1, z1_2, z1_3, y2_0, y2_1, y2_2, y2_3⟩ := Cz.d4 BK1; obtain ⟨Ao1, co1, eo1⟩ := Kd.R_slice HO1.out; subst eo1) | ((with_reducible refine gate_callee (f := 15) rfl ?_); refine Cz.gL (N := (some 28)) Try.func15 #[.agg #[.int .i64 0, .int .i64 0, .int .i64 0, .slice none 0 0]] ?_; (refine (stream_Write.calls 0 0 0 _ _ ([] : List (S36)) t9 t10 _ ?side0 ?side1 A3.out).mono ?_); (case side0 => exact Kd.C_nil _ _); (case side1 => exact Nat.le_refl _); rintro e w5 ⟨v2, rfl, ho0, hb⟩; refine ⟨_, rfl, ?_⟩; have HO2 := Aside0.mk (Kd.R_lower (Kd.R_new' ho0 (Kd.R_lt (by (with_reducible repeat (first | apply Kd.R_alloc | apply Kd.R_drewN | apply Kd.R_drew)); exact (Kd.R_mono (Cz.rf (Cz.rf (Cz.rf (Cz.rf (Kd.R_types HO0.out BK1.out (by decide)))))) (fun _ h_ => h_.1))))) (below_size (Cz.bl (w := w)))); replace HO0 := Aside0.mk (Kd.R_elder' (by (with_reducible repeat (first | apply Kd.R_alloc | apply Kd.R_drewN | apply Kd.R_drew)); exact (Kd.R_mono (Cz.rf (Cz.rf (Cz.rf (Cz.rf (Kd.R_types HO0.out BK1.out (by decide)))))) (fun _ h_ => h_.1))) (Kd.R_base ho0) hb); replace HO1 := Aside0.mk (Kd.R_elder' (by (with_reducible repeat (first | apply Kd.R_alloc | apply Kd.R_drewN | apply Kd.R_drew)); exact (Kd.R_mono (Cz.rf (Cz.rf (Cz.rf (Cz.rf (Kd.R_types HO1.out BK1.out (by decide)))))) (fun _ h_ => h_.1))) (Kd.R_base ho0) hb); replace BK0 := Aside0.mk (blk_below (g := gb0) (o := .cells #[.int .i64 8, .int .i64 0, .int .i64 1, .slice none 0 0] 24 (0, 0)) (by (with_reducible repeat (first | refine blk_drewN ?_ _ | refine blk_drew ?_ | refine blk_alloc ?_ _)); refine blk_far ?_ NB0_257.out _; refine blk_far ?_ NB0_257.out _; refine blk_far ?_ NB0_257.out _; refine blk_far ?_ NB0_257.out _; (with_reducible repeat (first | refine blk_drewN ?_ _ | refine blk_drew ?_ | refine blk_alloc ?_ _)); exact BK0.out) hb); replace BK1 := Aside0.mk (blk_below (g := gb1) (o := .cells #[.int .i64 t4, .int .i64 t5, .int .i64 t6, .slice Ao1 t7.length co1] 24 (0, 0)) (by (with_reducible repeat (first | refine blk_drewN ?_ _ | refine blk_drew ?_ | refine blk_alloc ?_ _)); apply Cz.a4; (with_reducible repeat (first | refine blk_drewN ?_ _ | refine blk_drew ?_ | refine blk_alloc ?_ _)); exact BK1.out) hb); replace HB := Cz.bs (w := w) hb; (try clear hb); (try clear hk); (try clear ho0)) | ((with_reducible refine gate_callee (f := 28) rfl ?_); refine Cz.gL (N := (some 32)) Try.func28 #[.slice none 0 0] ?_; (refine (stream_Read.calls _ _ ([] : List Int) t11 t12 t13 t14 t15 _ ?side0 ?side1 A4.out).mono ?_); (case side0 => exact Kd.C_nil _ _); (case side1 => exact Nat.le_refl _); rintro e w6 ⟨v3, rfl, ho0, hb⟩; refine ⟨_, rfl, ?_⟩; have HO3 := Aside0.mk (Kd.R_lower (Kd.R_new' (Kd.R_new' (Kd.R_new' ho0 (Kd.R_lt (by (with_reducible repeat (first | apply Kd.R_alloc | apply Kd.R_drewN | apply Kd.R_drew)); exact HO0.out))) (Kd.R_lt (by (with_reducible repeat (first | apply Kd.R_alloc | apply Kd.R_drewN | apply Kd.R_drew)); exact HO1.out))) (Kd.R_lt (by (with_reducible repeat (first | apply Kd.R_alloc | apply Kd.R_drewN | apply Kd.R_drew)); exact HO2.out))) (below_size (Cz.bl (w := w)))); replace HO0 := Cz.rb HO0 hb; replace HO1 := Aside0.mk (Kd.R_elder' (Cz.rq HO1) (Kd.R_base ho0) hb); replace HO2 := Cz.rb HO2 hb; replace BK0 := Cz.bk BK0 hb; replace BK1 := Cz.bk BK1 hb; replace HB := Cz.bs (w := w) hb; (try clear hb); (try clear ho0)) | ((with_reducible refine gate_dst (N := 8) rfl ?_); refine Cz.bx (N := 8) #[.int .i64 0, .int .i64 0, .int .i64 0, .slice none 0 0] 24 ?_; intro gb2 hg w7 hbox hb; have BK2 := Aside0.mk (hbox); have GW2 := Aside0.mk ((Cz.gs hg : w.heap.size ≤ gb2)); have GE2 := GW2; have NB0_269 := Aside0.mk ((Cz.nl BK0 hg : gb0 ≠ gb2)); have NB2_245 := Aside0.mk ((Cz.nr BK0 hg : gb2 ≠ gb0)); have NB1_269 := Aside0.mk ((Cz.nl BK1 hg : gb1 ≠ gb2)); have NB2_257 := Aside0.mk ((Cz.nr BK1 hg : gb2 ≠ gb1)); replace HO0 := Cz.rb HO0 hb; replace HO1 := Cz.rb HO1 hb; replace HO2 := Cz.rb HO2 hb; replace HO3 := Cz.rb HO3 hb; replace BK0 := Cz.bk BK0 hb; replace BK1 := Cz.bk BK1 hb; replace HB := Cz.bs (w := w) hb; clear hb hbox hg; have hnb1 := NB2_245.out; have hnc1 := NB0_269.out; have hnb2 := NB2_257.out; have hnc2 := NB1_269.out; obtain ⟨z2_0, z2_1, z2_2, z2_3, y3_0, y3_1, y3_2, y3_3⟩ := Cz.d4 BK2; obtain ⟨Ao2, co2, eo2⟩ := Kd.R_slice HO3.out; subst eo2) | ((with_reducible refine gate_callee (f := 17) rfl ?_); refine Cz.gL (N := (some 36)) Try.func17 #[.slice none 0 0] ?_; (refine (stream_Begin.calls _ _ ([] : List Int) t16 t17 t18 t19 t20 _ ?side0 ?side1 A5.out).mono ?_); (case side0 => exact Kd.C_nil _ _); (case side1 => exact Nat.le_refl _); rintro e w8 ⟨v4, rfl, ho0, hb⟩; refine ⟨_, rfl, ?_⟩; have HO4 := Aside0.mk (Kd.R_lower (Kd.R_new' (Kd.R_new' (Kd.R_new' (Kd.R_new' ho0 (Kd.R_lt (by (with_reducible repeat (first | apply Kd.R_alloc | apply Kd.R_drewN | apply Kd.R_drew)); exact (Kd.R_mono (Cz.rf (Cz.rf (Cz.rf (Cz.rf (Kd.R_types HO0.out BK2.out (by decide)))))) (fun _ h_ => h_.1))))) (Kd.R_lt (by (with_reducible repeat (first | apply Kd.R_alloc | apply Kd.R_drewN | apply Kd.R_drew)); exact (Kd.R_mono (Cz.rf (Cz.rf (Cz.rf (Cz.rf (Kd.R_types HO1.out BK2.out (by decide)))))) (fun _ h_ => h_.1))))) (Kd.R_lt (by (with_reducible repeat (first | apply Kd.R_alloc | apply Kd.R_drewN | apply Kd.R_drew)); exact (Kd.R_mono (Cz.rf (Cz.rf (Cz.rf (Cz.rf (Kd.R_types HO2.out BK2.out (by decide)))))) (fun _ h_ => h_.1))))) (Kd.R_lt (by (with_reducible repeat (first | apply Kd.R_alloc | apply Kd.R_drewN | apply Kd.R_drew)); exact (Kd.R_mono (Cz.rf (Cz.rf (Cz.rf (Cz.rf (Kd.R_types HO3.out BK2.out (by decide)))))) (fun _ h_ => h_.1))))) (below_size (Cz.bl (w := w)))); replace HO0 := Aside0.mk (Kd.R_below (by (with_reducible repeat (first | apply Kd.R_alloc | apply Kd.R_drewN | apply Kd.R_drew)); exact (Kd.R_mono (Cz.rf (Cz.rf (Cz.rf (Cz.rf (Kd.R_types HO0.out BK2.out (by decide)))))) (fun _ h_ => h_.1))) hb); replace HO1 := Aside0.mk (Kd.R_elder' (by (with_reducible repeat (first | apply Kd.R_alloc | apply Kd.R_drewN | apply Kd.R_drew)); exact (Kd.R_mono (Cz.rf (Cz.rf (Cz.rf (Cz.rf (Kd.R_types HO1.out BK2.out (by decide)))))) (fun _ h_ => h_.1))) (Kd.R_base ho0) hb); replace HO2 := Aside0.mk (Kd.R_below (by (with_reducible repeat (first | apply Kd.R_alloc | apply Kd.R_drewN | apply Kd.R_drew)); exact (Kd.R_mono (Cz.rf (Cz.rf (Cz.rf (Cz.rf (Kd.R_types HO2.out BK2.out (by decide)))))) (fun _ h_ => h_.1))) hb); replace HO3 := Aside0.mk (Kd.R_elder' (by (with_reducible repeat (first | apply Kd.R_alloc | apply Kd.R_drewN | apply Kd.R_drew)); exact (Kd.R_mono (Cz.rf (Cz.rf (Cz.rf (Cz.rf (Kd.R_types HO3.out BK2.out (by decide)))))) (fun _ h_ => h_.1))) (Kd.R_base ho0) hb); replace BK0 := Aside0.mk (blk_below (g := gb0) (o := .cells #[.int .i64 8, .int .i64 0, .int .i64 1, .slice none 0 0] 24 (0, 0)) (by (with_reducible repeat (first | refine blk_drewN ?_ _ | refine blk_drew ?_ | refine blk_alloc ?_ _)); refine blk_far ?_ NB0_269.out _; refine blk_far ?_ NB0_269.out _; refine blk_far ?_ NB0_269.out _; refine blk_far ?_ NB0_269.out _; (with_reducible repeat (first | refine blk_drewN ?_ _ | refine blk_drew ?_ | refine blk_alloc ?_ _)); exact BK0.out) hb); replace BK1 := Aside0.mk (blk_below (g := gb1) (o := .cells #[.int .i64 t4, .int .i64 t5, .int .i64 t6, .slice Ao1 t7.length co1] 24 (0, 0)) (by (with_reducible repeat (first | refine blk_drewN ?_ _ | refine blk_drew ?_ | refine blk_alloc ?_ _)); refine blk_far ?_ NB1_269.out _; refine blk_far ?_ NB1_269.out _; refine blk_far ?_ NB1_269.out _; refine blk_far ?_ NB1_269.out _; (with_reducible repeat (first | refine blk_drewN ?_ _ | refine blk_drew ?_ | refine blk_alloc ?_ _)); exact BK1.out) hb); replace BK2 := Aside0.mk (blk_below (g := gb2) (o := .cells #[.int .i64 t11, .int .i64 t12, .int .i64 t13, .slice Ao2 t14.length co2] 24 (0, 0)) (by (with_reducible repeat (first | refine blk_drewN ?_ _ | refine blk_drew ?_ | refine blk_alloc ?_ _)); apply Cz.a4; (with_reducible repeat (first | refine blk_drewN ?_ _ | refine blk_drew ?_ | refine blk_alloc ?_ _)); exact BK2.out) hb); replace HB := Cz.bs (w := w) hb; (try clear hb); (try clear hk); (try clear ho0)) | ((with_reducible refine gate_dst (N := 10) rfl ?_); refine Cz.bx (N := 10) #[.int .i64 0, .int .i64 0, .int .i64 0, .slice none 0 0] 24 ?_; intro gb3 hg w9 hbox hb; have BK3 := Aside0.mk (hbox); have GW3 := Aside0.mk ((Cz.gs hg : w.heap.size ≤ gb3)); have GE3 := GW3; have NB0_277 := Aside0.mk ((Cz.nl BK0 hg : gb0 ≠ gb3)); have NB3_245 := Aside0.mk ((Cz.nr BK0 hg : gb3 ≠ gb0)); have NB1_277 := Aside0.mk ((Cz.nl BK1 hg : gb1 ≠ gb3)); have NB3_257 := Aside0.mk ((Cz.nr BK1 hg : gb3 ≠ gb1)); have NB2_277 := Aside0.mk ((Cz.nl BK2 hg : gb2 ≠ gb3)); have NB3_269 := Aside0.mk ((Cz.nr BK2 hg : gb3 ≠ gb2)); replace HO0 := Cz.rb HO0 hb; replace HO1 := Cz.rb HO1 hb; replace HO2 := Cz.rb HO2 hb; replace HO3 := Cz.rb HO3 hb; replace HO4 := Cz.rb HO4 hb; replace BK0 := Cz.bk BK0 hb; replace BK1 := Cz.bk BK1 hb; replace BK2 := Cz.bk BK2 hb; replace HB := Cz.bs (w := w) hb; clear hb hbox hg; have hnb3 := NB3_245.out; have hnc3 := NB0_277.out; have hnb4 := NB3_257.out; have hnc4 := NB1_277.out; have hnb5 := NB3_269.out; have hnc5 := NB2_277.out; obtain ⟨z3_0, z3_1, z3_2, z3_3, y4_0, y4_1, y4_2, y4_3⟩ := Cz.d4 BK3; obtain ⟨Ao3, co3, eo3⟩ := Kd.R_slice HO4.out; subst eo3) | ((with_reducible refine gate_store (t := 24) (p := 10) rfl ?_); refine store_event (t := 24) (p := 10) (v := ?vo_w0) (w1 := ((((w9.setCell ⟨gb3, 0, none⟩ (.int .i64 t16)).setCell ⟨gb3, 1, none⟩ (.int .i64 t17)).setCell ⟨gb3, 2, none⟩ (.int .i64 t18)).setCell ⟨gb3, 3, none⟩ (.slice Ao3 t19.length co3))) ?hg ?ho ?hn ?hr ?_; (case ho => rfl); (case hg => rfl); (case hn => rfl); (case hr => first | (go_simp; done) | (go_simp; rfl)); intro w10 hw; have n0_ : Aside0 (Kd.R (Kd.int .u8) 5 w10 w.heap.size (fun k_ => some k_ ≠ (v2 : Value).ownBlock) (.slice Ao0 t2.length co0) t2) := ⟨(by rw [hw]; exact (by (with_reducible repeat (first | apply Kd.R_alloc | apply Kd.R_drewN | apply Kd.R_drew)); exact Kd.R_mono (Cz.rf (Cz.rf (Cz.rf (Cz.rf (Kd.R_types HO0.out BK3.out (by decide)))))) (fun _ hk => hk.1.2)))⟩; have n1_ : Aside0 (Kd.R k36 36 w10 w.heap.size (fun k_ => some k_ ≠ (.slice Ao0 t2.length co0 : Value).ownBlock ∧ some k_ ≠ (v2 : Value).ownBlock ∧ some k_ ≠ (.slice Ao2 t14.length co2 : Value).ownBlock ∧ some k_ ≠ (.slice Ao3 t19.length co3 : Value).ownBlock) (.slice Ao1 t7.length co1) t7) := ⟨(by rw [hw]; exact (by (with_reducible repeat (first | apply Kd.R_alloc | apply Kd.R_drewN | apply Kd.R_drew)); exact Kd.R_mono (Cz.rf (Cz.rf (Cz.rf (Cz.rf (Kd.R_types HO1.out BK3.out (by decide)))))) (fun _ hk => ⟨hk.1.1.1.1.2, ⟨hk.1.1.1.2, ⟨hk.1.1.2, hk.1.2⟩⟩⟩)))⟩; have n2_ : Aside0 (Kd.R (Kd.int .u8) 5 w10 w.heap.size (fun k_ => some k_ ≠ (.slice Ao0 t2.length co0 : Value).ownBlock) v2 t9) := ⟨(by rw [hw]; exact (by (with_reducible repeat (first | apply Kd.R_alloc | apply Kd.R_drewN | apply Kd.R_drew)); exact Kd.R_mono (Cz.rf (Cz.rf (Cz.rf (Cz.rf (Kd.R_types HO2.out BK3.out (by decide)))))) (fun _ hk => hk.1.2)))⟩; have n3_ : Aside0 (Kd.R k36 36 w10 w.heap.size (fun k_ => some k_ ≠ (.slice Ao0 t2.length co0 : Value).ownBlock ∧ some k_ ≠ (.slice Ao1 t7.length co1 : Value).ownBlock ∧ some k_ ≠ (v2 : Value).ownBlock ∧ some k_ ≠ (.slice Ao3 t19.length co3 : Value).ownBlock) (.slice Ao2 t14.length co2) t14) := ⟨(by rw [hw]; exact (by (with_reducible repeat (first | apply Kd.R_alloc | apply Kd.R_drewN | apply Kd.R_drew)); exact Kd.R_mono (Cz.rf (Cz.rf (Cz.rf (Cz.rf (Kd.R_types HO3.out BK3.out (by decide)))))) (fun _ hk => ⟨hk.1.1.1.1.2, ⟨hk.1.1.1.2, ⟨hk.1.1.2, hk.1.2⟩⟩⟩)))⟩; have n4_ : Aside0 (Kd.R k36 36 w10 w.heap.size (fun k_ => some k_ ≠ (.slice Ao0 t2.length co0 : Value).ownBlock ∧ some k_ ≠ (.slice Ao1 t7.length co1 : Value).ownBlock ∧ some k_ ≠ (v2 : Value).ownBlock ∧ some k_ ≠ (.slice Ao2 t14.length co2 : Value).ownBlock) (.slice Ao3 t19.length co3) t19) := ⟨(by rw [hw]; exact (by (with_reducible repeat (first | apply Kd.R_alloc | apply Kd.R_drewN | apply Kd.R_drew)); exact Kd.R_mono (Cz.rf (Cz.rf (Cz.rf (Cz.rf (Kd.R_types HO4.out BK3.out (by decide)))))) (fun _ hk => ⟨hk.1.1.1.1.2, ⟨hk.1.1.1.2, ⟨hk.1.1.2, hk.1.2⟩⟩⟩)))⟩; have n5_ : Aside0 (w10.heap[gb0]? = some (.cells #[.int .i64 8, .int .i64 0, .int .i64 1, .slice none 0 0] 24 (0, 0))) := ⟨(by rw [hw]; exact (by (with_reducible repeat (first | refine blk_drewN ?_ _ | refine blk_drew ?_ | refine blk_alloc ?_ _)); refine blk_far ?_ NB0_277.out _; refine blk_far ?_ NB0_277.out _; refine blk_far ?_ NB0_277.out _; refine blk_far ?_ NB0_277.out _; (with_reducible repeat (first | refine blk_drewN ?_ _ | refine blk_drew ?_ | refine blk_alloc ?_ _)); exact BK0.out))⟩; have n6_ : Aside0 (w10.heap[gb1]? = some (.cells #[.int .i64 t4, .int .i64 t5, .int .i64 t6, .slice Ao1 t7.length co1] 24 (0, 0))) := ⟨(by rw [hw]; exact (by (with_reducible repeat (first | refine blk_drewN ?_ _ | refine blk_drew ?_ | refine blk_alloc ?_ _)); refine blk_far ?_ NB1_277.out _; refine blk_far ?_ NB1_277.out _; refine blk_far ?_ NB1_277.out _; refine blk_far ?_ NB1_277.out _; (with_reducible repeat (first | refine blk_drewN ?_ _ | refine blk_drew ?_ | refine blk_alloc ?_ _)); exact BK1.out))⟩; have n7_ : Aside0 (w10.heap[gb2]? = some (.cells #[.int .i64 t11, .int .i64 t12, .int .i64 t13, .slice Ao2 t14.length co2] 24 (0, 0))) := ⟨(by rw [hw]; exact (by (with_reducible repeat (first | refine blk_drewN ?_ _ | refine blk_drew ?_ | refine blk_alloc ?_ _)); refine blk_far ?_ NB2_277.out _; refine blk_far ?_ NB2_277.out _; refine blk_far ?_ NB2_277.out _; refine blk_far ?_ NB2_277.out _; (with_reducible repeat (first | refine blk_drewN ?_ _ | refine blk_drew ?_ | refine blk_alloc ?_ _)); exact BK2.out))⟩; have n8_ : Aside0 (w10.heap[gb3]? = some (.cells #[.int .i64 t16, .int .i64 t17, .int .i64 t18, .slice Ao3 t19.length co3] 24 (0, 0))) := ⟨(by rw [hw]; exact (by (with_reducible repeat (first | refine blk_drewN ?_ _ | refine blk_drew ?_ | refine blk_alloc ?_ _)); apply Cz.a4; (with_reducible repeat (first | refine blk_drewN ?_ _ | refine blk_drew ?_ | refine blk_alloc ?_ _)); exact BK3.out))⟩; have n9_ : Aside0 (Below w.heap.size w w10) := ⟨(by rw [hw]; exact (Cz.bl (w := w)))⟩; clear hw; clear HO0; clear HO1; clear HO2; clear HO3; clear HO4; clear BK0; clear BK1; clear BK2; clear BK3; clear HB; have HO0 := n0_; have HO1 := n1_; have HO2 := n2_; have HO3 := n3_; have HO4 := n4_; have BK0 := n5_; have BK1 := n6_; have BK2 := n7_; have BK3 := n8_; have HB := n9_; clear n0_ n1_ n2_ n3_ n4_ n5_ n6_ n7_ n8_ n9_; have q0 : (20 : Int) ≤ ((t2.length : Int) : Int) := of_decide_eq_true (by first | (with_reducible assumption) | assumption); obtain ⟨i0, hi0, _, hsz0, _⟩ := info_parts info5; have hroom0 : t2.length ≤ co0 := (Kd.R_reads' HO0.out).2.1; have hC0 : Kd.C (Kd.int .u8) _ Ao0 t2.length t2 := (Kd.R_reads' HO0.out).2.2; have hcut0 := cut_to (P := Try.prog) 27 5 .i64 Try.underlying27 hi0 Ao0 t2.length co0 20 (by omega) q0 hroom0; have hr0 := Kd.C_take (m := 20) hC0 (by omega); have hy1 : y0.length = (20 : Int).toNat := (by rw [Ny0.out, List.length_take]; omega); rw [← Ny0.out] at hr0; rw [← hy1] at hcut0; have HR0 := Aside0.mk hr0; have HC0 := Aside0.mk (show y0.length ≤ co0 from by omega); clear hr0 hC0 hroom0 hi0 hsz0; have KY0 := Aside0.mk hy1; clear hy1; have KL0 := Aside0.mk (show 20 ≤ t2.length from by omega); replace q0 := eq_true q0) | ((with_reducible refine gate_callee (f := 17) rfl ?_); refine Cz.gL (N := (some 45)) Try.func17 #[.slice Ao0 y0.length co0] ?_; (with_reducible refine (stream_Begin.calls _ _ y0 t21 t22 t23 t24 t25 _ ?side0 ?side1 A11.out).mono ?_); (case side0 => repeat (first | exact (by repeat (first | (with_reducible exact HR0.out) | (with_reducible refine Kd.C_alloc ?_ _) | (with_reducible refine Kd.C_drewN ?_ _) | (with_reducible refine Kd.C_drew ?_) | exact HR0.out)) | (with_reducible refine Kd.C_alloc ?_ _) | (with_reducible refine Kd.C_drewN ?_ _) | (with_reducible refine Kd.C_drew ?_))); (case side1 => exact HC0.out); rintro e w11 ⟨v5, rfl, ho0, hb⟩; refine ⟨_, rfl, ?_⟩; have HO5 := Aside0.mk (Kd.R_lower (Kd.R_new' (Kd.R_new' (Kd.R_new' (Kd.R_new' (Kd.R_new' ho0 (Kd.R_lt (by (with_reducible repeat (first | apply Kd.R_alloc | apply Kd.R_drewN | apply Kd.R_drew)); exact HO0.out))) (Kd.R_lt (by (with_reducible repeat (first | apply Kd.R_alloc | apply Kd.R_drewN | apply Kd.R_drew)); exact HO1.out))) (Kd.R_lt (by (with_reducible repeat (first | apply Kd.R_alloc | apply Kd.R_drewN | apply Kd.R_drew)); exact HO2.out))) (Kd.R_lt (by (with_reducible repeat (first | apply Kd.R_alloc | apply Kd.R_drewN | apply Kd.R_drew)); exact HO3.out))) (Kd.R_lt (by (with_reducible repeat (first | apply Kd.R_alloc | apply Kd.R_drewN | apply Kd.R_drew)); exact HO4.out))) (below_size (Cz.bl (w := w)))); replace HO0 := Cz.rb HO0 hb; replace HO1 := Aside0.mk (Kd.R_elder' (Cz.rq HO1) (Kd.R_base ho0) hb); replace HO2 := Cz.rb HO2 hb; replace HO3 := Aside0.mk (Kd.R_elder' (Cz.rq HO3) (Kd.R_base ho0) hb); replace HO4 := Aside0.mk (Kd.R_elder' (Cz.rq HO4) (Kd.R_base ho0) hb); replace BK0 := Cz.bk BK0 hb; replace BK1 := Cz.bk BK1 hb; replace BK2 := Cz.bk BK2 hb; replace BK3 := Cz.bk BK3 hb; replace HR0 := Aside0.mk (Kd.C_below (by repeat (first | (with_reducible exact HR0.out) | (with_reducible refine Kd.C_alloc ?_ _) | (with_reducible refine Kd.C_drewN ?_ _) | (with_reducible refine Kd.C_drew ?_) | exact HR0.out)) hb); replace HB := Cz.bs (w := w) hb; (try clear hb); (try clear ho0)) | ((with_reducible refine gate_dst (N := 12) rfl ?_); refine Cz.bx (N := 12) #[.int .i64 0, .int .i64 0, .int .i64 0, .slice none 0 0] 24 ?_; intro gb4 hg w12 hbox hb; have BK4 := Aside0.mk (hbox); have GW4 := Aside0.mk ((Cz.gs hg : w.heap.size ≤ gb4)); have GE4 := GW4; have NB0_289 := Aside0.mk ((Cz.nl BK0 hg : gb0 ≠ gb4)); have NB4_245 := Aside0.mk ((Cz.nr BK0 hg : gb4 ≠ gb0)); have NB1_289 := Aside0.mk ((Cz.nl BK1 hg : gb1 ≠ gb4)); have NB4_257 := Aside0.mk ((Cz.nr BK1 hg : gb4 ≠ gb1)); have NB2_289 := Aside0.mk ((Cz.nl BK2 hg : gb2 ≠ gb4)); have NB4_269 := Aside0.mk ((Cz.nr BK2 hg : gb4 ≠ gb2)); have NB3_289 := Aside0.mk ((Cz.nl BK3 hg : gb3 ≠ gb4)); have NB4_277 := Aside0.mk ((Cz.nr BK3 hg : gb4 ≠ gb3)); replace HO0 := Cz.rb HO0 hb; replace HO1 := Cz.rb HO1 hb; replace HO2 := Cz.rb HO2 hb; replace HO3 := Cz.rb HO3 hb; replace HO4 := Cz.rb HO4 hb; replace HO5 := Cz.rb HO5 hb; replace BK0 := Cz.bk BK0 hb; replace BK1 := Cz.bk BK1 hb; replace BK2 := Cz.bk BK2 hb; replace BK3 := Cz.bk BK3 hb; replace HR0 := Aside0.mk (Kd.C_below (by repeat (first | (with_reducible exact HR0.out) | (with_reducible refine Kd.C_alloc ?_ _) | (with_reducible refine Kd.C_drewN ?_ _) | (with_reducible refine Kd.C_drew ?_) | exact HR0.out)) hb); replace HB := Cz.bs (w := w) hb; clear hb hbox hg; have hnb6 := NB4_245.out; have hnc6 := NB0_289.out; have hnb7 := NB4_257.out; have hnc7 := NB1_289.out; have hnb8 := NB4_269.out; have hnc8 := NB2_289.out; have hnb9 := NB4_277.out; have hnc9 := NB3_289.out; obtain ⟨z4_0, z4_1, z4_2, z4_3, y5_0, y5_1, y5_2, y5_3⟩ := Cz.d4 BK4; obtain ⟨Ao4, co4, eo4⟩ := Kd.R_slice HO5.out; subst eo4; obtain ⟨z5_0, z5_1, z5_2, z5_3, y6_0, y6_1, y6_2, y6_3⟩ := Cz.d4 BK0; obtain ⟨z6_0, z6_1, z6_2, z6_3, y7_0, y7_1, y7_2, y7_3⟩ := Cz.d4 BK1) | ((with_reducible refine gate_callee (f := 30) rfl ?_); refine Cz.gL (N := (some 50)) Try.func30 #[.agg #[.int .i64 8, .int .i64 0, .int .i64 1, .slice none 0 0], .agg #[.int .i64 t4, .int .i64 t5, .int .i64 t6, .slice Ao1 t7.length co1]] ?_; (refine (waggonerref17_Same.calls 8 0 1 _ _ ([] : List (S36)) t4 t5 t6 _ _ t7 true _ ?side0 ?side1 ?side2 ?side3 A13.out).mono ?_); (case side0 => exact Kd.C_nil _ _); (case side1 => exact Nat.le_refl _); (case side2 => refine (Kd.R_reads' (e := 36) (base := w.heap.size) (ok := fun k_ => ((some k_ ≠ (.slice Ao0 t2.length co0 : Value).ownBlock ∧ (some k_ ≠ (v2 : Value).ownBlock ∧ (some k_ ≠ (.slice Ao2 t14.length co2 : Value).ownBlock ∧ some k_ ≠ (.slice Ao3 t19.length co3 : Value).ownBlock))) ∧ some k_ ≠ (.slice Ao4 t24.length co4 : Value).ownBlock)) (n := t7.length) (c := co1) ?_).2.2; exact (by (with_reducible repeat (first | apply Kd.R_alloc | apply Kd.R_drewN | apply Kd.R_drew)); exact (Kd.R_mono (Cz.rf (Cz.rf (Cz.rf (Cz.rf (Kd.R_types HO1.out BK4.out (by decide)))))) (fun _ h_ => h_.1)))); (case side3 => exact (Kd.R_reads' HO1.out).2.1); rintro e w13 ⟨rfl, hb⟩; refine ⟨_, rfl, ?_⟩; replace HO0 := Aside0.mk (Kd.R_below (by (with_reducible repeat (first | apply Kd.R_alloc | apply Kd.R_drewN | apply Kd.R_drew)); exact (Kd.R_mono (Cz.rf (Cz.rf (Cz.rf (Cz.rf (Kd.R_types HO0.out BK4.out (by decide)))))) (fun _ h_ => h_.1))) hb); replace HO1 := Aside0.mk (Kd.R_below (by (with_reducible repeat (first | apply Kd.R_alloc | apply Kd.R_drewN | apply Kd.R_drew)); exact (Kd.R_mono (Cz.rf (Cz.rf (Cz.rf (Cz.rf (Kd.R_types HO1.out BK4.out (by decide)))))) (fun _ h_ => h_.1))) hb); replace HO2 := Aside0.mk (Kd.R_below (by (with_reducible repeat (first | apply Kd.R_alloc | apply Kd.R_drewN | apply Kd.R_drew)); exact (Kd.R_mono (Cz.rf (Cz.rf (Cz.rf (Cz.rf (Kd.R_types HO2.out BK4.out (by decide)))))) (fun _ h_ => h_.1))) hb); replace HO3 := Aside0.mk (Kd.R_below (by (with_reducible repeat (first | apply Kd.R_alloc | apply Kd.R_drewN | apply Kd.R_drew)); exact (Kd.R_mono (Cz.rf (Cz.rf (Cz.rf (Cz.rf (Kd.R_types HO3.out BK4.out (by decide)))))) (fun _ h_ => h_.1))) hb); replace HO4 := Aside0.mk (Kd.R_below (by (with_reducible repeat (first | apply Kd.R_alloc | apply Kd.R_drewN | apply Kd.R_drew)); exact (Kd.R_mono (Cz.rf (Cz.rf (Cz.rf (Cz.rf (Kd.R_types HO4.out BK4.out (by decide)))))) (fun _ h_ => h_.1))) hb); replace HO5 := Aside0.mk (Kd.R_below (by (with_reducible repeat (first | apply Kd.R_alloc | apply Kd.R_drewN | apply Kd.R_drew)); exact (Kd.R_mono (Cz.rf (Cz.rf (Cz.rf (Cz.rf (Kd.R_types HO5.out BK4.out (by decide)))))) (fun _ h_ => h_.1))) hb); replace BK0 := Aside0.mk (blk_below (g := gb0) (o := .cells #[.int .i64 8, .int .i64 0, .int .i64 1, .slice none 0 0] 24 (0, 0)) (by (with_reducible repeat (first | refine blk_drewN ?_ _ | refine blk_drew ?_ | refine blk_alloc ?_ _)); refine blk_far ?_ NB0_289.out _; refine blk_far ?_ NB0_289.out _; refine blk_far ?_ NB0_289.out _; refine blk_far ?_ NB0_289.out _; (with_reducible repeat (first | refine blk_drewN ?_ _ | refine blk_drew ?_ | refine blk_alloc ?_ _)); exact BK0.out) hb); replace BK1 := Aside0.mk (blk_below (g := gb1) (o := .cells #[.int .i64 t4, .int .i64 t5, .int .i64 t6, .slice Ao1 t7.length co1] 24 (0, 0)) (by (with_reducible repeat (first | refine blk_drewN ?_ _ | refine blk_drew ?_ | refine blk_alloc ?_ _)); refine blk_far ?_ NB1_289.out _; refine blk_far ?_ NB1_289.out _; refine blk_far ?_ NB1_289.out _; refine blk_far ?_ NB1_289.out _; (with_reducible repeat (first | refine blk_drewN ?_ _ | refine blk_drew ?_ | refine blk_alloc ?_ _)); exact BK1.out) hb); replace BK2 := Aside0.mk (blk_below (g := gb2) (o := .cells #[.int .i64 t11, .int .i64 t12, .int .i64 t13, .slice Ao2 t14.length co2] 24 (0, 0)) (by (with_reducible repeat (first | refine blk_drewN ?_ _ | refine blk_drew ?_ | refine blk_alloc ?_ _)); refine blk_far ?_ NB2_289.out _; refine blk_far ?_ NB2_289.out _; refine blk_far ?_ NB2_289.out _; refine blk_far ?_ NB2_289.out _; (with_reducible repeat (first | refine blk_drewN ?_ _ | refine blk_drew ?_ | refine blk_alloc ?_ _)); exact BK2.out) hb); replace BK3 := Aside0.mk (blk_below (g := gb3) (o := .cells #[.int .i64 t16, .int .i64 t17, .int .i64 t18, .slice Ao3 t19.length co3] 24 (0, 0)) (by (with_reducible repeat (first | refine blk_drewN ?_ _ | refine blk_drew ?_ | refine blk_alloc ?_ _)); refine blk_far ?_ NB3_289.out _; refine blk_far ?_ NB3_289.out _; refine blk_far ?_ NB3_289.out _; refine blk_far ?_ NB3_289.out _; (with_reducible repeat (first | refine blk_drewN ?_ _ | refine blk_drew ?_ | refine blk_alloc ?_ _)); exact BK3.out) hb); replace BK4 := Aside0.mk (blk_below (g := gb4) (o := .cells #[.int .i64 t21, .int .i64 t22, .int .i64 t23, .slice Ao4 t24.length co4] 24 (0, 0)) (by (with_reducible repeat (first | refine blk_drewN ?_ _ | refine blk_drew ?_ | refine blk_alloc ?_ _)); apply Cz.a4; (with_reducible repeat (first | refine blk_drewN ?_ _ | refine blk_drew ?_ | refine blk_alloc ?_ _)); exact BK4.out) hb); replace HB := Cz.bs (w := w) hb; (try clear hb); (try clear hk); obtain ⟨z7_0, z7_1, z7_2, z7_3, y8_0, y8_1, y8_2, y8_3⟩ := Cz.d4 BK4; obtain ⟨z8_0, z8_1, z8_2, z8_3, y9_0, y9_1, y9_2, y9_3⟩ := Cz.d4 BK0) | (go_at_call 31; (with_reducible show Calls _ _ #[.agg #[.int .i64 8, .int .i64 0, .int .i64 1, _]] _ _); (refine (stream_Check.calls 8 0 1 _ _ ([] : List (S36)) true _ ?side0 ?side1 A15.out).mono ?_); (case side0 => exact Kd.C_nil _ _); (case side1 => exact Nat.le_refl _); rintro e w14 ⟨rfl, hb⟩; replace HO0 := Cz.rb HO0 hb; replace HO1 := Cz.rb HO1 hb; replace HO2 := Cz.rb HO2 hb; replace HO3 := Cz.rb HO3 hb; replace HO4 := Cz.rb HO4 hb; replace HO5 := Cz.rb HO5 hb; replace BK0 := Cz.bk BK0 hb; replace BK1 := Cz.bk BK1 hb; replace BK2 := Cz.bk BK2 hb; replace BK3 := Cz.bk BK3 hb; replace BK4 := Cz.bk BK4 hb; replace HB := Cz.bs (w := w) hb; (try clear hb)))
   go_ret
   exact ⟨by first | rfl | (exact congrArg (fun z_ => Ending.returned (Value.bool z_)) HRT.out) | (rw [HRT.out]; done) | (simp [errW_none, errW_some] <;> rfl) | (simp [*, errW_none, errW_some] <;> rfl), Cz.bl (w := w)⟩
  replace c19 := Bool.eq_false_iff.mpr c19
  subst c19
 rotate_left
 focus
  replace c11 := Bool.eq_false_iff.mpr c11
  subst c11
 rotate_left
 all_goals
  have H1 : (some false) = some true := by rw [if_neg (show ¬ (false = true) by decide)] at H <;> exact H
  exact absurd H1 (by simp)
def waggonerlaw17_awake.f : Option Bool := some true
theorem aw_begin {b : List Int} (hb : Pl.byteB b = true) (hl : b.length < 1000000000) {B P T e : Int} {L : List Pl.Ext} (h : Pl.beginS b = ((B, P, T, L), e)) : stream_Begin.f b = some (B, P, T, L.map ofE, e) := by
 rw [stream_Begin.tells hb hl, h]
theorem aw_read {b : List Int} (hb : Pl.byteB b = true) (hl : b.length < 1000000000) {B P T e : Int} {L : List Pl.Ext} (h : Pl.sreadS b = ((B, P, T, L), e)) : stream_Read.f b = some (B, P, T, L.map ofE, e) := by
 unfold stream_Read.f
 rw [stream_Begin.tells hb hl, Option.bind_some]
 unfold Pl.sreadS at h
 dsimp only
 split at h
 ·rename_i h0
  rw [if_pos h0, h]
  dsimp only
  rw [h] at h0
  rw [show e = 0 from h0]
 rename_i h0
 rw [if_neg h0]
 simp only [Pl.stZ, Prod.mk.injEq] at h
 obtain ⟨⟨rfl, rfl, rfl, rfl⟩, rfl⟩ := h
 rfl
theorem aw_same {B P T : Int} {l : List S36} {B' P' T' : Int} {l' : List S36} (h0 : ∀ s ∈ l, Pl.byteB s.f4 = true) (h1 : ∀ s ∈ l', Pl.byteB s.f4 = true) (h2 : l.length < 1073741824) : waggonerref17_Same.f B P T l B' P' T' l' = some (decide (B = B' ∧ P = P' ∧ T = T' ∧ l.map toE = l'.map toE)) := by
 unfold waggonerref17_Same.f
 rw [waggonerref07_All.tells h0 h1 h2, Option.bind_some]
 by_cases c0 : B = B'
 ·by_cases c1 : P = P'
  ·by_cases c2 : T = T'
   ·rw [if_pos c0, if_pos c1, if_pos c2]; simp [c0, c1, c2]
   rw [if_pos c0, if_pos c1, if_neg c2]; simp [c2]
  rw [if_pos c0, if_neg c1]; simp [c1]
 rw [if_neg c0]; simp [c0]
theorem waggonerlaw17_awake.tells : waggonerlaw17_awake_p.f = some true := by
 have hok : Pl.stOk 8 0 1 [] = true := by decide
 have hb : ∀ x ∈ ([] : List Pl.Ext), Pl.byteB x.2.2.2.2 = true := fun x hx => absurd hx (by simp)
 have hw : stream_Write.f 8 0 1 [] = some (Pl.stW 8 0 1 [], 0) := by rw [stream_Write.tells (fun s hs => absurd hs (by simp)), List.map_nil, Pl.swriteS, if_pos hok]
 have hz : stream_Write.f 0 0 0 [] = some ([], 170) := by rw [stream_Write.tells (fun s hs => absurd hs (by simp)), List.map_nil, Pl.swriteS, if_neg (by decide)]
 have hby := Pl.stW_byte (B := 8) (P := 0) (T := 1) hb
 have hlen := Pl.stW_length hok
 have h0 : (Pl.stW 8 0 1 []).length = 29 := by have h1 := hlen.1; simp at h1; omega
 have hr : stream_Read.f (Pl.stW 8 0 1 []) = some (8, 0, 1, [], 0) := aw_read hby (by omega) (Pl.sreadS_write hok hb)
 have he : stream_Begin.f [] = some (0, 0, 0, [], 161) := aw_begin (b := []) rfl (by decide) (by rfl)
 have hn : stream_Read.f [] = some (0, 0, 0, [], 170) := aw_read (b := []) rfl (by decide) (by rfl)
 obtain ⟨i, t, hi, hadv, hbeg, hle, hlt⟩ := Pl.beginS_take hok hb (j := 20) (by omega)
 have h16 := Pl.frWT_head 8 0 1
 have hF : Pl.stF 8 0 1 [] = [Pl.stH 8 0 1] := rfl
 have hi1 : i = 1 := by
  rw [hF] at hi hlt
  cases i with
  | zero =>
   have h1 := hlt (by simp)
   simp [Pl.fsB, h16] at h1
  | succ n => simp at hi; omega
 subst hi1
 have ht : t = (8, 0, 1, []) := by
  have h1 := Pl.stF_advs hok
  rw [show (Pl.stF 8 0 1 []).take 1 = Pl.stF 8 0 1 [] from rfl, h1] at hadv
  exact (Option.some.inj hadv).symm
 subst ht
 have hg : stream_Begin.f ((Pl.stW 8 0 1 []).take 20) = some (8, 0, 1, [], 161) := aw_begin (Pl.byteB_take hby 20) (by rw [List.length_take]; omega) hbeg
 have hs : waggonerref17_Same.f 8 0 1 [] 8 0 1 [] = some true := by rw [aw_same (fun s hs => absurd hs (by simp)) (fun s hs => absurd hs (by simp)) (by decide)]; rfl
 have hc : stream_Check.f 8 0 1 [] = some true := by unfold stream_Check.f; rw [List.map_nil, hok]
 unfold waggonerlaw17_awake_p.f
 rw [hw, Option.bind_some]
 dsimp only
 rw [hr, Option.bind_some, hz, Option.bind_some, hn, Option.bind_some, he, Option.bind_some, if_pos (by omega), if_pos (by omega), hg, Option.bind_some]
 dsimp only
 rw [hs, Option.bind_some, if_pos rfl, if_pos rfl, if_pos rfl, if_pos rfl, if_pos rfl, if_pos rfl, if_pos rfl, if_pos rfl, hc, Option.bind_some, if_pos rfl]
theorem waggonerlaw17_awake.calls (r : Bool) (w : World) (h : waggonerlaw17_awake.f = some r) :
  Calls Try.prog 14 #[] w fun e w' => e = .returned (.bool r) ∧ Below w.heap.size w w' := by
 unfold waggonerlaw17_awake.f at h
 obtain rfl := Option.some.inj h
 exact waggonerlaw17_awake_p.calls true rfl w waggonerlaw17_awake.tells
def waggonerlaw07_Few_p.l0 : Nat → List (S36) → Int → Option (Bool)
 | 0, _, _ => none
 | k + 1, x0, x3 => if x3 < (x0.length : Int) then (if 0 ≤ x3 then (if (((rd_T36 x0 x3).f4).length : Int) > 3000 then (some false) else (waggonerlaw07_Few_p.l0 k x0 (wrap64 (x3 + 1)))) else (none)) else (some true)
def waggonerlaw07_Few_p.f (k : Nat) (l0 : List (S36)) : Option (Bool) := if (l0.length : Int) > 70 then (some false) else (waggonerlaw07_Few_p.l0 k l0 0)
set_option maxHeartbeats 8000000 in
set_option maxRecDepth 100000 in
theorem waggonerlaw07_Few_p.calls (k : Nat) (A0 : Option Addr) (c0 : Nat) (l0 : List (S36)) (r : Bool) (w : World) (hr0 : Kd.C k36 w A0 l0.length l0) (hc0 : l0.length ≤ c0) (h : waggonerlaw07_Few_p.f k l0 = some r) :
  Calls Try.prog 36 #[.slice A0 l0.length c0] w fun e w' => e = .returned (.bool r) ∧ Drawn0 w w' := by
 have HR0 := Aside0.mk hr0
 have HC0 := Aside0.mk hc0
 clear hr0 hc0
 have H : (if (l0.length : Int) > 70 then (some false) else (waggonerlaw07_Few_p.l0 k l0 0)) = some r := h
 clear h
 by_cases c2 : (l0.length : Int) > 70
 ·rw [if_pos c2] at H
  have c2b0 : decide (70 < (l0.length : Int)) = true := decide_eq_true c2
  have c2b1 : decide (70 < l0.length) = true := decide_eq_true (by omega)
  clear c2
  obtain rfl := Option.some.inj H
  go_enter Try.func36, Try.ntmps36
  go_wp2
  go_ret
  exact ⟨by first | rfl | (simp; done) | (simp [*]; done), by repeat (first | exact Drawn0.refl _ | apply Drawn0.step)⟩
 rw [if_neg c2] at H
 have c2b0 : decide (70 < (l0.length : Int)) = false := decide_eq_false c2
 have c2b1 : decide (70 < l0.length) = false := decide_eq_false (by omega)
 clear c2
 have H' := Aside0.mk H
 clear H
 go_enter Try.func36, Try.ntmps36
 go_wp2
 go_loopg [3] k (fun kq v3 w' => ∃ (x0_1 : Int), v3 = .int .i64 x0_1 ∧ Aside0 (waggonerlaw07_Few_p.l0 kq l0 x0_1 = some r) ∧ Aside0 (kq ≤ k) ∧ Drawn0 w w')
 case atStart => exact ⟨(0), Cz.si, H', ⟨Nat.le_refl _⟩, by repeat (first | exact Drawn0.refl _ | apply Drawn0.step)⟩
 case round =>
  clear H'
  try clear c2
  try clear c2b0
  try clear c2b1
  try clear p2
  obtain ⟨x0_1, rfl, HA, HK0, ⟨m1, rfl⟩⟩ := hrel
  cases gk with
  | zero => exact absurd HA.out (by simp [waggonerlaw07_Few_p.l0])
  | succ k1 =>
   have H := HA.out
   clear HA
   simp only [waggonerlaw07_Few_p.l0] at H
   by_cases c3 : x0_1 < (l0.length : Int)
   rotate_left
   ·rw [if_neg c3] at H
    have c3b0 : decide (x0_1 < (l0.length : Int)) = false := decide_eq_false c3
    clear c3
    obtain rfl := Option.some.inj H
    go_wp2
    go_ret
    exact ⟨by first | rfl | (simp; done) | (simp [*]; done), by repeat (first | exact Drawn0.refl _ | apply Drawn0.step)⟩
   rw [if_pos c3] at H
   have c3b0 : decide (x0_1 < (l0.length : Int)) = true := decide_eq_true c3
   clear c3
   by_cases c4 : 0 ≤ x0_1
   rotate_left
   ·rw [if_neg c4] at H
    exact absurd H (by simp)
   rw [if_pos c4] at H
   have c4b0 : decide (0 ≤ x0_1) = true := decide_eq_true c4
   clear c4
   by_cases c5 : (((rd_T36 l0 x0_1).f4).length : Int) > 3000
   focus
    rw [if_pos c5] at H
    have c5b0 : decide (3000 < (((rd_T36 l0 x0_1).f4).length : Int)) = true := decide_eq_true c5
    have c5b1 : decide (3000 < ((rd_T36 l0 x0_1).f4).length) = true := decide_eq_true (by omega)
    clear c5
    obtain rfl := Option.some.inj H
   rotate_left
   focus
    rw [if_neg c5] at H
    have c5b0 : decide (3000 < (((rd_T36 l0 x0_1).f4).length : Int)) = false := decide_eq_false c5
    have c5b1 : decide (3000 < ((rd_T36 l0 x0_1).f4).length) = false := decide_eq_false (by omega)
    clear c5
    have H' := Aside0.mk H
    clear H
   rotate_left
   all_goals
    have p0 : 0 ≤ (x0_1 : Int) := of_decide_eq_true (by first | (with_reducible assumption) | assumption)
    have q0 : x0_1 < (l0.length : Int) := of_decide_eq_true (by first | (with_reducible assumption) | assumption)
    obtain ⟨ad0, A1_4, c1_4, e0, hx0_0, hx0_1, hx0_2, hx0_3, hx0_4, hl0_4, hi0_4⟩ := at_T36 HR0.out x0_1 p0 q0
    cases e0
    have HR1_4 := Aside0.mk hi0_4
    have HC1_4 := Aside0.mk hl0_4
    clear hi0_4 hl0_4
    replace p0 := eq_true p0
    replace q0 := eq_true q0
    go_wp2
   ·go_ret
    exact ⟨by first | rfl | (simp; done) | (simp [*]; done), by repeat (first | exact Drawn0.refl _ | apply Drawn0.step)⟩
   ·go_roundg k1
    case measure => have := HK0.out; omega
    case rel => exact ⟨(wrap64 (x0_1 + 1)), Cz.si, H', ⟨by have := HK0.out; omega⟩, by repeat (first | exact Drawn0.refl _ | apply Drawn0.step)⟩
def waggonerlaw07_Few.f (l0 : List S36) : Option Bool := some (decide (l0.length ≤ 70) && l0.all fun s => decide (s.f4.length ≤ 3000))
theorem waggonerlaw07_Few.loop {l0 : List S36} (h2 : l0.length ≤ 70) : ∀ (d k i : Nat), l0.length - i = d → i ≤ l0.length → d < k → waggonerlaw07_Few_p.l0 k l0 (i : Int) = some ((l0.drop i).all fun s => decide (s.f4.length ≤ 3000))
 | 0, k, i, hd, hi, hk => by
  obtain ⟨k, rfl⟩ : ∃ m, k = m + 1 := ⟨k - 1, by omega⟩
  rw [waggonerlaw07_Few_p.l0, if_neg (by omega), List.drop_of_length_le (by omega)]
  rfl
 | d + 1, k, i, hd, hi, hk => by
  obtain ⟨k, rfl⟩ : ∃ m, k = m + 1 := ⟨k - 1, by omega⟩
  have hi0 : i < l0.length := by omega
  rw [waggonerlaw07_Few_p.l0, if_pos (by omega), if_pos (by omega), rd_getE l0 i hi0, List.drop_eq_getElem_cons hi0, List.all_cons]
  by_cases he : l0[i].f4.length ≤ 3000
  ·rw [if_neg (by omega), show wrap64 ((i : Int) + 1) = ((i + 1 : Nat) : Int) by unfold wrap64; omega, waggonerlaw07_Few.loop h2 d k (i + 1) (by omega) (by omega) (by omega), decide_eq_true he]
   rfl
  rw [if_pos (by omega), decide_eq_false he]
  rfl
theorem waggonerlaw07_Few.closes {l0 : List S36} {r : Bool} (h : waggonerlaw07_Few.f l0 = some r) : waggonerlaw07_Few_p.f (l0.length + 1) l0 = some r := by
 rw [← h]
 unfold waggonerlaw07_Few_p.f waggonerlaw07_Few.f
 by_cases hl : l0.length ≤ 70
 ·rw [if_neg (by omega), decide_eq_true hl]
  exact waggonerlaw07_Few.loop hl l0.length _ 0 (by omega) (by omega) (by omega)
 rw [if_pos (by omega), decide_eq_false hl]
 rfl
theorem waggonerlaw07_Few.calls (A0 : Option Addr) (c0 : Nat) (l0 : List (S36)) (r : Bool) (w : World) (hr0 : Kd.C k36 w A0 l0.length l0) (hc0 : l0.length ≤ c0) (h : waggonerlaw07_Few.f l0 = some r) :
  Calls Try.prog 36 #[.slice A0 l0.length c0] w fun e w' => e = .returned (.bool r) ∧ Drawn0 w w' :=
 waggonerlaw07_Few_p.calls (l0.length + 1) A0 c0 l0 r w hr0 hc0 (waggonerlaw07_Few.closes h)
def waggonerlaw17_few.f (a0_0 : Int) (a0_1 : Int) (a0_2 : Int) (l0_3 : List (S36)) : Option (Bool) := (waggonerlaw07_Few.f l0_3).bind fun t294 => (some t294)
set_option maxHeartbeats 8000000 in
set_option maxRecDepth 100000 in
theorem waggonerlaw17_few.calls (a0_0 : Int) (a0_1 : Int) (a0_2 : Int) (A0_3 : Option Addr) (c0_3 : Nat) (l0_3 : List (S36)) (r : Bool) (w : World) (hr0_3 : Kd.C k36 w A0_3 l0_3.length l0_3) (hc0_3 : l0_3.length ≤ c0_3) (h : waggonerlaw17_few.f a0_0 a0_1 a0_2 l0_3 = some r) :
  Calls Try.prog 16 #[.agg #[.int .i64 a0_0, .int .i64 a0_1, .int .i64 a0_2, .slice A0_3 l0_3.length c0_3]] w fun e w' => e = .returned (.bool r) ∧ Below w.heap.size w w' := by
 have hu0 := Try.underlying24
 have HR0_3 := Aside0.mk hr0_3
 have HC0_3 := Aside0.mk hc0_3
 clear hr0_3 hc0_3
 have HB := Aside0.mk (Below.refl w.heap.size w)
 have H : ((waggonerlaw07_Few.f l0_3).bind fun t0 => (some t0)) = some r := h
 clear h
 replace H := Option.bind_eq_some_iff.mp H
 obtain ⟨t0, A1, H⟩ := H
 (try dsimp only at H)
 have A2 := Aside0.mk A1
 clear A1
 obtain rfl := Option.some.inj H
 go_enter Try.func16, Try.ntmps16
 go_wp2_with (first | ((with_reducible refine gate_dst (N := 1) rfl ?_); refine Cz.bx (N := 1) #[.int .i64 a0_0, .int .i64 a0_1, .int .i64 a0_2, .slice A0_3 l0_3.length c0_3] 24 ?_; intro gb0 hg w3 hbox hb; have BK0 := Aside0.mk (hbox); have GW0 := Aside0.mk ((Cz.gs hg : w.heap.size ≤ gb0)); have GE0 := GW0; replace HB := Cz.bs (w := w) hb; clear hb hbox hg; obtain ⟨z0_0, z0_1, z0_2, z0_3, y0_0, y0_1, y0_2, y0_3⟩ := Cz.d4 BK0) | ((with_reducible refine gate_callee (f := 36) rfl ?_); refine Cz.gL (N := (some 5)) Try.func36 #[.slice A0_3 l0_3.length c0_3] ?_; (with_reducible refine (waggonerlaw07_Few.calls _ _ l0_3 t0 _ ?side0 ?side1 A2.out).mono ?_); (case side0 => exact Cz.cb HR0_3); (case side1 => exact HC0_3.out); rintro e w' ⟨rfl, ⟨nd, rfl⟩⟩; refine ⟨_, rfl, ?_⟩))
 go_ret
 exact ⟨Cz.er, Cz.bl (w := w)⟩
end Go.Proofs.Ytohkmmbmfhficaa.PT
