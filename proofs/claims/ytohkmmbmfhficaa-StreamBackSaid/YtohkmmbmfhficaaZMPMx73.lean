/- Words and walks that this claim names, of those that the kit's print and programs of this workplace have printed. -/
import Derived.Test.YtohkmmbmfhficaaZMCz
import Derived.Test.YtohkmmbmfhficaaZMPMx5
import Derived.Test.YtohkmmbmfhficaaZMPMx55
import Derived.Test.YtohkmmbmfhficaaZMPMx62
import Derived.Test.YtohkmmbmfhficaaZMPMx68
namespace Go.Proofs.Ytohkmmbmfhficaa.PM
open Go.Proofs.Ytohkmmbmfhficaa Go.RowKit Go.Proofs.YtohkmmbmfhficaaW.PrintWords Go.Proofs.YtohkmmbmfhficaaW.PrintLast Go.Proofs.YtohkmmbmfhficaaW.PrintMore
attribute [local go_sem] max2_int min2_int max_two min_two max_three min_three max_four min_four
set_option linter.unusedVariables false
set_option linter.unusedSimpArgs false
def waggonerlaw17_awake_p.f  : Option (Bool) := (stream_Write.f 8 0 1 ([] : List (S36))).bind fun bt246 => ((stream_Read.f bt246.1).bind fun bt250 => ((stream_Write.f 0 0 0 ([] : List (S36))).bind fun bt258 => ((stream_Read.f ([] : List Int)).bind fun bt262 => ((stream_Begin.f ([] : List Int)).bind fun bt270 => (if (bt246.1.length : Int) = 29 then (if 20 ≤ (bt246.1.length : Int) then ((stream_Begin.f (bt246.1.take 20)).bind fun bt282 => ((waggonerref17_Same.f 8 0 1 ([] : List (S36)) bt250.1 bt250.2.1 bt250.2.2.1 bt250.2.2.2.1).bind fun t290 => (if bt246.2 = 0 then (if t290 = true then (if bt250.2.2.2.2 = 0 then (if bt258.2 = 170 then (if bt262.2.2.2.2 = 170 then (if bt270.2.2.2.2 = 161 then (if bt282.2.2.2.2 = 161 then (if bt282.1 = 8 then ((stream_Check.f 8 0 1 ([] : List (S36))).bind fun t291 => (if t291 = true then (some true) else (some false))) else (some false)) else (some false)) else (some false)) else (some false)) else (some false)) else (some false)) else (some false)) else (some false)))) else (none)) else (some false))))))
set_option maxHeartbeats 8000000 in
set_option maxRecDepth 100000 in
theorem waggonerlaw17_awake_p.calls  (r : Bool) (hT : r = true) (w : World) (h : waggonerlaw17_awake_p.f  = some r) :
  Calls Try.prog 14 #[] w fun e w' => e = .returned (.bool r) ∧ Below w.heap.size w w' := by
 subst hT
 have hu24 := Try.underlying24
 have HB := Aside0.mk (Below.refl w.heap.size w)
 have H : ((stream_Write.f 8 0 1 ([] : List (S36))).bind fun bt246 => ((stream_Read.f bt246.1).bind fun bt250 => ((stream_Write.f 0 0 0 ([] : List (S36))).bind fun bt258 => ((stream_Read.f ([] : List Int)).bind fun bt262 => ((stream_Begin.f ([] : List Int)).bind fun bt270 => (if (bt246.1.length : Int) = 29 then (if 20 ≤ (bt246.1.length : Int) then ((stream_Begin.f (bt246.1.take 20)).bind fun bt282 => ((waggonerref17_Same.f 8 0 1 ([] : List (S36)) bt250.1 bt250.2.1 bt250.2.2.1 bt250.2.2.2.1).bind fun t290 => (if bt246.2 = 0 then (if t290 = true then (if bt250.2.2.2.2 = 0 then (if bt258.2 = 170 then (if bt262.2.2.2.2 = 170 then (if bt270.2.2.2.2 = 161 then (if bt282.2.2.2.2 = 161 then (if bt282.1 = 8 then ((stream_Check.f 8 0 1 ([] : List (S36))).bind fun t291 => (if t291 = true then (some true) else (some false))) else (some false)) else (some false)) else (some false)) else (some false)) else (some false)) else (some false)) else (some false)) else (some false)))) else (none)) else (some false))))))) = some true := h
 clear h
 replace H := Option.bind_eq_some_iff.mp H
 obtain ⟨⟨t246, t249⟩, A10, H⟩ := H
 (try dsimp only at H)
 have A1 := Aside0.mk A10
 clear A10
 replace H := Option.bind_eq_some_iff.mp H
 obtain ⟨⟨t250, t251, t252, t253, t256⟩, A20, H⟩ := H
 (try dsimp only at H)
 have A2 := Aside0.mk A20
 clear A20
 replace H := Option.bind_eq_some_iff.mp H
 obtain ⟨⟨t258, t261⟩, A30, H⟩ := H
 (try dsimp only at H)
 have A3 := Aside0.mk A30
 clear A30
 replace H := Option.bind_eq_some_iff.mp H
 obtain ⟨⟨t262, t263, t264, t265, t268⟩, A40, H⟩ := H
 (try dsimp only at H)
 have A4 := Aside0.mk A40
 clear A40
 replace H := Option.bind_eq_some_iff.mp H
 obtain ⟨⟨t270, t271, t272, t273, t276⟩, A50, H⟩ := H
 (try dsimp only at H)
 have A5 := Aside0.mk A50
 clear A50
 by_cases c6 : (t246.length : Int) = 29
 ·rw [if_pos c6] at H
  have c6b0 : ((t246.length : Int) == 29) = true := beq_iff_eq.mpr c6
  have c6b1 : ((t246.length : Int) != 29) = false := bne_eq_false_iff_eq.mpr c6
  clear c6
  by_cases c7 : 20 ≤ (t246.length : Int)
  ·rw [if_pos c7] at H
   have c7b0 := eq_true c7
   have c7b1 : decide (20 ≤ (t246.length : Int)) = true := decide_eq_true c7
   clear c7
   obtain ⟨y278, hy278⟩ : ∃ y_ : List Int, y_ = (t246.take 20) := ⟨_, rfl⟩
   replace H : ((stream_Begin.f y278).bind fun bt282 => ((waggonerref17_Same.f 8 0 1 ([] : List (S36)) t250 t251 t252 t253).bind fun t290 => (if t249 = 0 then (if t290 = true then (if t256 = 0 then (if t261 = 170 then (if t268 = 170 then (if t276 = 161 then (if bt282.2.2.2.2 = 161 then (if bt282.1 = 8 then ((stream_Check.f 8 0 1 ([] : List (S36))).bind fun t291 => (if t291 = true then (some true) else (some false))) else (some false)) else (some false)) else (some false)) else (some false)) else (some false)) else (some false)) else (some false)) else (some false)))) = some true := by first | (rw [hy278]; with_reducible exact H) | (have H2_ := (Option.bind_some _ _).symm.trans H; rw [hy278]; with_reducible exact H2_) | (have H2_ := (Option.bind_some _ _).symm.trans H; with_reducible exact H2_) | with_reducible exact H | (rw [hy278]; exact H) | exact H
   have Ny278 := Aside0.mk hy278
   clear hy278
   replace H := Option.bind_eq_some_iff.mp H
   obtain ⟨⟨t282, t283, t284, t285, t288⟩, A80, H⟩ := H
   (try dsimp only at H)
   have A8 := Aside0.mk A80
   clear A80
   replace H := Option.bind_eq_some_iff.mp H
   obtain ⟨t290, A90, H⟩ := H
   (try dsimp only at H)
   have A9 := Aside0.mk A90
   clear A90
   by_cases c10 : t249 = 0
   ·rw [if_pos c10] at H
    have c10b0 : (t249 == 0) = true := beq_iff_eq.mpr c10
    have c10b1 : (t249 != 0) = false := bne_eq_false_iff_eq.mpr c10
    clear c10
    by_cases c11 : t290 = true
    ·subst c11
     rw [if_pos rfl] at H
     by_cases c12 : t256 = 0
     ·rw [if_pos c12] at H
      have c12b0 : (t256 == 0) = true := beq_iff_eq.mpr c12
      have c12b1 : (t256 != 0) = false := bne_eq_false_iff_eq.mpr c12
      clear c12
      by_cases c13 : t261 = 170
      ·rw [if_pos c13] at H
       have c13b0 : (t261 == 170) = true := beq_iff_eq.mpr c13
       have c13b1 : (t261 != 170) = false := bne_eq_false_iff_eq.mpr c13
       clear c13
       by_cases c14 : t268 = 170
       ·rw [if_pos c14] at H
        have c14b0 : (t268 == 170) = true := beq_iff_eq.mpr c14
        have c14b1 : (t268 != 170) = false := bne_eq_false_iff_eq.mpr c14
        clear c14
        by_cases c15 : t276 = 161
        ·rw [if_pos c15] at H
         have c15b0 : (t276 == 161) = true := beq_iff_eq.mpr c15
         have c15b1 : (t276 != 161) = false := bne_eq_false_iff_eq.mpr c15
         clear c15
         by_cases c16 : t288 = 161
         ·rw [if_pos c16] at H
          have c16b0 : (t288 == 161) = true := beq_iff_eq.mpr c16
          have c16b1 : (t288 != 161) = false := bne_eq_false_iff_eq.mpr c16
          clear c16
          by_cases c17 : t282 = 8
          ·rw [if_pos c17] at H
           have c17b0 : (t282 == 8) = true := beq_iff_eq.mpr c17
           have c17b1 : (t282 != 8) = false := bne_eq_false_iff_eq.mpr c17
           clear c17
           replace H := Option.bind_eq_some_iff.mp H
           obtain ⟨t291, A180, H⟩ := H
           (try dsimp only at H)
           have A18 := Aside0.mk A180
           clear A180
           by_cases c19 : t291 = true
           ·subst c19
            rw [if_pos rfl] at H
            (have HRT := Aside0.mk (Option.some.inj H); clear H)
            go_enter Try.func14, Try.ntmps14
            go_wp2_with (first | ((with_reducible refine gate_dst (N := 1) rfl ?_); refine Cz.bx (N := 1) #[.int .i64 0, .int .i64 0, .int .i64 0, .slice none 0 0] 24 ?_; intro gb245 hg w20 hbox hb; have BK245 := Aside0.mk (hbox); have GW245 := Aside0.mk ((Cz.gs hg : w.heap.size ≤ gb245)); have GE245 := GW245; replace HB := Cz.bs (w := w) hb; clear hb hbox hg; obtain ⟨z21_0, z21_1, z21_2, z21_3, y21_0, y21_1, y21_2, y21_3⟩ := Cz.d4 BK245) | ((with_reducible refine gate_callee (f := 15) rfl ?_); refine Cz.gL (N := (some 18)) Try.func15 #[.agg #[.int .i64 8, .int .i64 0, .int .i64 1, .slice none 0 0]] ?_; (refine (stream_Write.calls 8 0 1 _ _ ([] : List (S36)) t246 t249 _ ?side1 ?side2 A1.out).mono ?_); (case side1 => exact Kd.C_nil _ _); (case side2 => exact Nat.le_refl _); rintro e w22 ⟨v247, rfl, ho0, hb⟩; refine ⟨_, rfl, ?_⟩; have HO248 := Aside0.mk (Kd.R_lower ho0 (below_size (Cz.bl (w := w)))); replace BK245 := Aside0.mk (blk_below (g := gb245) (o := .cells #[.int .i64 8, .int .i64 0, .int .i64 1, .slice none 0 0] 24 (0, 0)) (by (with_reducible repeat (first | refine blk_drewN ?_ _ | refine blk_drew ?_ | refine blk_alloc ?_ _)); apply Cz.a4; (with_reducible repeat (first | refine blk_drewN ?_ _ | refine blk_drew ?_ | refine blk_alloc ?_ _)); exact BK245.out) hb); replace HB := Cz.bs (w := w) hb; (try clear hb); (try clear ho0); obtain ⟨Ao23, co23, eo23⟩ := Kd.R_slice HO248.out; subst eo23) | ((with_reducible refine gate_callee (f := 28) rfl ?_); refine Cz.gL (N := (some 23)) Try.func28 #[.slice Ao23 t246.length co23] ?_; (with_reducible refine (stream_Read.calls _ _ t246 t250 t251 t252 t253 t256 _ ?side1 ?side2 A2.out).mono ?_); (case side1 => repeat (first | exact (Kd.R_reads' HO248.out).2.2 | (with_reducible refine Kd.C_alloc ?_ _) | (with_reducible refine Kd.C_drewN ?_ _) | (with_reducible refine Kd.C_drew ?_))); (case side2 => exact (Kd.R_reads' HO248.out).2.1); rintro e w24 ⟨v254, rfl, ho0, hb⟩; refine ⟨_, rfl, ?_⟩; have HO255 := Aside0.mk (Kd.R_lower (Kd.R_new' ho0 (Kd.R_lt (by (with_reducible repeat (first | apply Kd.R_alloc | apply Kd.R_drewN | apply Kd.R_drew)); exact HO248.out))) (below_size (Cz.bl (w := w)))); replace HO248 := Cz.rb HO248 hb; replace BK245 := Cz.bk BK245 hb; replace HB := Cz.bs (w := w) hb; (try clear hb); (try clear ho0)) | ((with_reducible refine gate_dst (N := 4) rfl ?_); refine Cz.bx (N := 4) #[.int .i64 0, .int .i64 0, .int .i64 0, .slice none 0 0] 24 ?_; intro gb257 hg w25 hbox hb; have BK257 := Aside0.mk (hbox); have GW257 := Aside0.mk ((Cz.gs hg : w.heap.size ≤ gb257)); have GE257 := GW257; have NB245_257 := Aside0.mk ((Cz.nl BK245 hg : gb245 ≠ gb257)); have NB257_245 := Aside0.mk ((Cz.nr BK245 hg : gb257 ≠ gb245)); replace HO248 := Cz.rb HO248 hb; replace HO255 := Cz.rb HO255 hb; replace BK245 := Cz.bk BK245 hb; replace HB := Cz.bs (w := w) hb; clear hb hbox hg; have hnb26 := NB257_245.out; have hnc26 := NB245_257.out; obtain ⟨z27_0, z27_1, z27_2, z27_3, y27_0, y27_1, y27_2, y27_3⟩ := Cz.d4 BK257; obtain ⟨Ao28, co28, eo28⟩ := Kd.R_slice HO255.out; subst eo28) | ((with_reducible refine gate_callee (f := 15) rfl ?_); refine Cz.gL (N := (some 28)) Try.func15 #[.agg #[.int .i64 0, .int .i64 0, .int .i64 0, .slice none 0 0]] ?_; (refine (stream_Write.calls 0 0 0 _ _ ([] : List (S36)) t258 t261 _ ?side1 ?side2 A3.out).mono ?_); (case side1 => exact Kd.C_nil _ _); (case side2 => exact Nat.le_refl _); rintro e w29 ⟨v259, rfl, ho0, hb⟩; refine ⟨_, rfl, ?_⟩; have HO260 := Aside0.mk (Kd.R_lower (Kd.R_new' ho0 (Kd.R_lt (by (with_reducible repeat (first | apply Kd.R_alloc | apply Kd.R_drewN | apply Kd.R_drew)); exact (Kd.R_mono (Cz.rf (Cz.rf (Cz.rf (Cz.rf (Kd.R_types HO248.out BK257.out (by decide)))))) (fun _ h_ => h_.1))))) (below_size (Cz.bl (w := w)))); replace HO248 := Aside0.mk (Kd.R_elder' (by (with_reducible repeat (first | apply Kd.R_alloc | apply Kd.R_drewN | apply Kd.R_drew)); exact (Kd.R_mono (Cz.rf (Cz.rf (Cz.rf (Cz.rf (Kd.R_types HO248.out BK257.out (by decide)))))) (fun _ h_ => h_.1))) (Kd.R_base ho0) hb); replace HO255 := Aside0.mk (Kd.R_elder' (by (with_reducible repeat (first | apply Kd.R_alloc | apply Kd.R_drewN | apply Kd.R_drew)); exact (Kd.R_mono (Cz.rf (Cz.rf (Cz.rf (Cz.rf (Kd.R_types HO255.out BK257.out (by decide)))))) (fun _ h_ => h_.1))) (Kd.R_base ho0) hb); replace BK245 := Aside0.mk (blk_below (g := gb245) (o := .cells #[.int .i64 8, .int .i64 0, .int .i64 1, .slice none 0 0] 24 (0, 0)) (by (with_reducible repeat (first | refine blk_drewN ?_ _ | refine blk_drew ?_ | refine blk_alloc ?_ _)); refine blk_far ?_ NB245_257.out _; refine blk_far ?_ NB245_257.out _; refine blk_far ?_ NB245_257.out _; refine blk_far ?_ NB245_257.out _; (with_reducible repeat (first | refine blk_drewN ?_ _ | refine blk_drew ?_ | refine blk_alloc ?_ _)); exact BK245.out) hb); replace BK257 := Aside0.mk (blk_below (g := gb257) (o := .cells #[.int .i64 t250, .int .i64 t251, .int .i64 t252, .slice Ao28 t253.length co28] 24 (0, 0)) (by (with_reducible repeat (first | refine blk_drewN ?_ _ | refine blk_drew ?_ | refine blk_alloc ?_ _)); apply Cz.a4; (with_reducible repeat (first | refine blk_drewN ?_ _ | refine blk_drew ?_ | refine blk_alloc ?_ _)); exact BK257.out) hb); replace HB := Cz.bs (w := w) hb; (try clear hb); (try clear hk); (try clear ho0)) | ((with_reducible refine gate_callee (f := 28) rfl ?_); refine Cz.gL (N := (some 32)) Try.func28 #[.slice none 0 0] ?_; (refine (stream_Read.calls _ _ ([] : List Int) t262 t263 t264 t265 t268 _ ?side1 ?side2 A4.out).mono ?_); (case side1 => exact Kd.C_nil _ _); (case side2 => exact Nat.le_refl _); rintro e w30 ⟨v266, rfl, ho0, hb⟩; refine ⟨_, rfl, ?_⟩; have HO267 := Aside0.mk (Kd.R_lower (Kd.R_new' (Kd.R_new' (Kd.R_new' ho0 (Kd.R_lt (by (with_reducible repeat (first | apply Kd.R_alloc | apply Kd.R_drewN | apply Kd.R_drew)); exact HO248.out))) (Kd.R_lt (by (with_reducible repeat (first | apply Kd.R_alloc | apply Kd.R_drewN | apply Kd.R_drew)); exact HO255.out))) (Kd.R_lt (by (with_reducible repeat (first | apply Kd.R_alloc | apply Kd.R_drewN | apply Kd.R_drew)); exact HO260.out))) (below_size (Cz.bl (w := w)))); replace HO248 := Cz.rb HO248 hb; replace HO255 := Aside0.mk (Kd.R_elder' (Cz.rq HO255) (Kd.R_base ho0) hb); replace HO260 := Cz.rb HO260 hb; replace BK245 := Cz.bk BK245 hb; replace BK257 := Cz.bk BK257 hb; replace HB := Cz.bs (w := w) hb; (try clear hb); (try clear ho0)) | ((with_reducible refine gate_dst (N := 8) rfl ?_); refine Cz.bx (N := 8) #[.int .i64 0, .int .i64 0, .int .i64 0, .slice none 0 0] 24 ?_; intro gb269 hg w31 hbox hb; have BK269 := Aside0.mk (hbox); have GW269 := Aside0.mk ((Cz.gs hg : w.heap.size ≤ gb269)); have GE269 := GW269; have NB245_269 := Aside0.mk ((Cz.nl BK245 hg : gb245 ≠ gb269)); have NB269_245 := Aside0.mk ((Cz.nr BK245 hg : gb269 ≠ gb245)); have NB257_269 := Aside0.mk ((Cz.nl BK257 hg : gb257 ≠ gb269)); have NB269_257 := Aside0.mk ((Cz.nr BK257 hg : gb269 ≠ gb257)); replace HO248 := Cz.rb HO248 hb; replace HO255 := Cz.rb HO255 hb; replace HO260 := Cz.rb HO260 hb; replace HO267 := Cz.rb HO267 hb; replace BK245 := Cz.bk BK245 hb; replace BK257 := Cz.bk BK257 hb; replace HB := Cz.bs (w := w) hb; clear hb hbox hg; have hnb32 := NB269_245.out; have hnc32 := NB245_269.out; have hnb33 := NB269_257.out; have hnc33 := NB257_269.out; obtain ⟨z34_0, z34_1, z34_2, z34_3, y34_0, y34_1, y34_2, y34_3⟩ := Cz.d4 BK269; obtain ⟨Ao35, co35, eo35⟩ := Kd.R_slice HO267.out; subst eo35) | ((with_reducible refine gate_callee (f := 17) rfl ?_); refine Cz.gL (N := (some 36)) Try.func17 #[.slice none 0 0] ?_; (refine (stream_Begin.calls _ _ ([] : List Int) t270 t271 t272 t273 t276 _ ?side1 ?side2 A5.out).mono ?_); (case side1 => exact Kd.C_nil _ _); (case side2 => exact Nat.le_refl _); rintro e w36 ⟨v274, rfl, ho0, hb⟩; refine ⟨_, rfl, ?_⟩; have HO275 := Aside0.mk (Kd.R_lower (Kd.R_new' (Kd.R_new' (Kd.R_new' (Kd.R_new' ho0 (Kd.R_lt (by (with_reducible repeat (first | apply Kd.R_alloc | apply Kd.R_drewN | apply Kd.R_drew)); exact (Kd.R_mono (Cz.rf (Cz.rf (Cz.rf (Cz.rf (Kd.R_types HO248.out BK269.out (by decide)))))) (fun _ h_ => h_.1))))) (Kd.R_lt (by (with_reducible repeat (first | apply Kd.R_alloc | apply Kd.R_drewN | apply Kd.R_drew)); exact (Kd.R_mono (Cz.rf (Cz.rf (Cz.rf (Cz.rf (Kd.R_types HO255.out BK269.out (by decide)))))) (fun _ h_ => h_.1))))) (Kd.R_lt (by (with_reducible repeat (first | apply Kd.R_alloc | apply Kd.R_drewN | apply Kd.R_drew)); exact (Kd.R_mono (Cz.rf (Cz.rf (Cz.rf (Cz.rf (Kd.R_types HO260.out BK269.out (by decide)))))) (fun _ h_ => h_.1))))) (Kd.R_lt (by (with_reducible repeat (first | apply Kd.R_alloc | apply Kd.R_drewN | apply Kd.R_drew)); exact (Kd.R_mono (Cz.rf (Cz.rf (Cz.rf (Cz.rf (Kd.R_types HO267.out BK269.out (by decide)))))) (fun _ h_ => h_.1))))) (below_size (Cz.bl (w := w)))); replace HO248 := Aside0.mk (Kd.R_below (by (with_reducible repeat (first | apply Kd.R_alloc | apply Kd.R_drewN | apply Kd.R_drew)); exact (Kd.R_mono (Cz.rf (Cz.rf (Cz.rf (Cz.rf (Kd.R_types HO248.out BK269.out (by decide)))))) (fun _ h_ => h_.1))) hb); replace HO255 := Aside0.mk (Kd.R_elder' (by (with_reducible repeat (first | apply Kd.R_alloc | apply Kd.R_drewN | apply Kd.R_drew)); exact (Kd.R_mono (Cz.rf (Cz.rf (Cz.rf (Cz.rf (Kd.R_types HO255.out BK269.out (by decide)))))) (fun _ h_ => h_.1))) (Kd.R_base ho0) hb); replace HO260 := Aside0.mk (Kd.R_below (by (with_reducible repeat (first | apply Kd.R_alloc | apply Kd.R_drewN | apply Kd.R_drew)); exact (Kd.R_mono (Cz.rf (Cz.rf (Cz.rf (Cz.rf (Kd.R_types HO260.out BK269.out (by decide)))))) (fun _ h_ => h_.1))) hb); replace HO267 := Aside0.mk (Kd.R_elder' (by (with_reducible repeat (first | apply Kd.R_alloc | apply Kd.R_drewN | apply Kd.R_drew)); exact (Kd.R_mono (Cz.rf (Cz.rf (Cz.rf (Cz.rf (Kd.R_types HO267.out BK269.out (by decide)))))) (fun _ h_ => h_.1))) (Kd.R_base ho0) hb); replace BK245 := Aside0.mk (blk_below (g := gb245) (o := .cells #[.int .i64 8, .int .i64 0, .int .i64 1, .slice none 0 0] 24 (0, 0)) (by (with_reducible repeat (first | refine blk_drewN ?_ _ | refine blk_drew ?_ | refine blk_alloc ?_ _)); refine blk_far ?_ NB245_269.out _; refine blk_far ?_ NB245_269.out _; refine blk_far ?_ NB245_269.out _; refine blk_far ?_ NB245_269.out _; (with_reducible repeat (first | refine blk_drewN ?_ _ | refine blk_drew ?_ | refine blk_alloc ?_ _)); exact BK245.out) hb); replace BK257 := Aside0.mk (blk_below (g := gb257) (o := .cells #[.int .i64 t250, .int .i64 t251, .int .i64 t252, .slice Ao28 t253.length co28] 24 (0, 0)) (by (with_reducible repeat (first | refine blk_drewN ?_ _ | refine blk_drew ?_ | refine blk_alloc ?_ _)); refine blk_far ?_ NB257_269.out _; refine blk_far ?_ NB257_269.out _; refine blk_far ?_ NB257_269.out _; refine blk_far ?_ NB257_269.out _; (with_reducible repeat (first | refine blk_drewN ?_ _ | refine blk_drew ?_ | refine blk_alloc ?_ _)); exact BK257.out) hb); replace BK269 := Aside0.mk (blk_below (g := gb269) (o := .cells #[.int .i64 t262, .int .i64 t263, .int .i64 t264, .slice Ao35 t265.length co35] 24 (0, 0)) (by (with_reducible repeat (first | refine blk_drewN ?_ _ | refine blk_drew ?_ | refine blk_alloc ?_ _)); apply Cz.a4; (with_reducible repeat (first | refine blk_drewN ?_ _ | refine blk_drew ?_ | refine blk_alloc ?_ _)); exact BK269.out) hb); replace HB := Cz.bs (w := w) hb; (try clear hb); (try clear hk); (try clear ho0)) | ((with_reducible refine gate_dst (N := 10) rfl ?_); refine Cz.bx (N := 10) #[.int .i64 0, .int .i64 0, .int .i64 0, .slice none 0 0] 24 ?_; intro gb277 hg w37 hbox hb; have BK277 := Aside0.mk (hbox); have GW277 := Aside0.mk ((Cz.gs hg : w.heap.size ≤ gb277)); have GE277 := GW277; have NB245_277 := Aside0.mk ((Cz.nl BK245 hg : gb245 ≠ gb277)); have NB277_245 := Aside0.mk ((Cz.nr BK245 hg : gb277 ≠ gb245)); have NB257_277 := Aside0.mk ((Cz.nl BK257 hg : gb257 ≠ gb277)); have NB277_257 := Aside0.mk ((Cz.nr BK257 hg : gb277 ≠ gb257)); have NB269_277 := Aside0.mk ((Cz.nl BK269 hg : gb269 ≠ gb277)); have NB277_269 := Aside0.mk ((Cz.nr BK269 hg : gb277 ≠ gb269)); replace HO248 := Cz.rb HO248 hb; replace HO255 := Cz.rb HO255 hb; replace HO260 := Cz.rb HO260 hb; replace HO267 := Cz.rb HO267 hb; replace HO275 := Cz.rb HO275 hb; replace BK245 := Cz.bk BK245 hb; replace BK257 := Cz.bk BK257 hb; replace BK269 := Cz.bk BK269 hb; replace HB := Cz.bs (w := w) hb; clear hb hbox hg; have hnb38 := NB277_245.out; have hnc38 := NB245_277.out; have hnb39 := NB277_257.out; have hnc39 := NB257_277.out; have hnb40 := NB277_269.out; have hnc40 := NB269_277.out; obtain ⟨z41_0, z41_1, z41_2, z41_3, y41_0, y41_1, y41_2, y41_3⟩ := Cz.d4 BK277; obtain ⟨Ao42, co42, eo42⟩ := Kd.R_slice HO275.out; subst eo42) | ((with_reducible refine gate_store (t := 24) (p := 10) rfl ?_); refine store_event (t := 24) (p := 10) (v := ?vo_w43) (w1 := ((((w37.setCell ⟨gb277, 0, none⟩ (.int .i64 t270)).setCell ⟨gb277, 1, none⟩ (.int .i64 t271)).setCell ⟨gb277, 2, none⟩ (.int .i64 t272)).setCell ⟨gb277, 3, none⟩ (.slice Ao42 t273.length co42))) ?hg ?ho ?hn ?hr ?_; (case ho => rfl); (case hg => rfl); (case hn => rfl); (case hr => first | (go_simp; done) | (go_simp; rfl)); intro w43 hw; have n0_ : Aside0 (Kd.R (Kd.int .u8) 5 w43 w.heap.size (fun k_ => some k_ ≠ (v259 : Value).ownBlock) (.slice Ao23 t246.length co23) t246) := ⟨(by rw [hw]; exact (by (with_reducible repeat (first | apply Kd.R_alloc | apply Kd.R_drewN | apply Kd.R_drew)); exact Kd.R_mono (Cz.rf (Cz.rf (Cz.rf (Cz.rf (Kd.R_types HO248.out BK277.out (by decide)))))) (fun _ hk => hk.1.2)))⟩; have n1_ : Aside0 (Kd.R k36 36 w43 w.heap.size (fun k_ => some k_ ≠ (.slice Ao23 t246.length co23 : Value).ownBlock ∧ some k_ ≠ (v259 : Value).ownBlock ∧ some k_ ≠ (.slice Ao35 t265.length co35 : Value).ownBlock ∧ some k_ ≠ (.slice Ao42 t273.length co42 : Value).ownBlock) (.slice Ao28 t253.length co28) t253) := ⟨(by rw [hw]; exact (by (with_reducible repeat (first | apply Kd.R_alloc | apply Kd.R_drewN | apply Kd.R_drew)); exact Kd.R_mono (Cz.rf (Cz.rf (Cz.rf (Cz.rf (Kd.R_types HO255.out BK277.out (by decide)))))) (fun _ hk => ⟨hk.1.1.1.1.2, ⟨hk.1.1.1.2, ⟨hk.1.1.2, hk.1.2⟩⟩⟩)))⟩; have n2_ : Aside0 (Kd.R (Kd.int .u8) 5 w43 w.heap.size (fun k_ => some k_ ≠ (.slice Ao23 t246.length co23 : Value).ownBlock) v259 t258) := ⟨(by rw [hw]; exact (by (with_reducible repeat (first | apply Kd.R_alloc | apply Kd.R_drewN | apply Kd.R_drew)); exact Kd.R_mono (Cz.rf (Cz.rf (Cz.rf (Cz.rf (Kd.R_types HO260.out BK277.out (by decide)))))) (fun _ hk => hk.1.2)))⟩; have n3_ : Aside0 (Kd.R k36 36 w43 w.heap.size (fun k_ => some k_ ≠ (.slice Ao23 t246.length co23 : Value).ownBlock ∧ some k_ ≠ (.slice Ao28 t253.length co28 : Value).ownBlock ∧ some k_ ≠ (v259 : Value).ownBlock ∧ some k_ ≠ (.slice Ao42 t273.length co42 : Value).ownBlock) (.slice Ao35 t265.length co35) t265) := ⟨(by rw [hw]; exact (by (with_reducible repeat (first | apply Kd.R_alloc | apply Kd.R_drewN | apply Kd.R_drew)); exact Kd.R_mono (Cz.rf (Cz.rf (Cz.rf (Cz.rf (Kd.R_types HO267.out BK277.out (by decide)))))) (fun _ hk => ⟨hk.1.1.1.1.2, ⟨hk.1.1.1.2, ⟨hk.1.1.2, hk.1.2⟩⟩⟩)))⟩; have n4_ : Aside0 (Kd.R k36 36 w43 w.heap.size (fun k_ => some k_ ≠ (.slice Ao23 t246.length co23 : Value).ownBlock ∧ some k_ ≠ (.slice Ao28 t253.length co28 : Value).ownBlock ∧ some k_ ≠ (v259 : Value).ownBlock ∧ some k_ ≠ (.slice Ao35 t265.length co35 : Value).ownBlock) (.slice Ao42 t273.length co42) t273) := ⟨(by rw [hw]; exact (by (with_reducible repeat (first | apply Kd.R_alloc | apply Kd.R_drewN | apply Kd.R_drew)); exact Kd.R_mono (Cz.rf (Cz.rf (Cz.rf (Cz.rf (Kd.R_types HO275.out BK277.out (by decide)))))) (fun _ hk => ⟨hk.1.1.1.1.2, ⟨hk.1.1.1.2, ⟨hk.1.1.2, hk.1.2⟩⟩⟩)))⟩; have n5_ : Aside0 (w43.heap[gb245]? = some (.cells #[.int .i64 8, .int .i64 0, .int .i64 1, .slice none 0 0] 24 (0, 0))) := ⟨(by rw [hw]; exact (by (with_reducible repeat (first | refine blk_drewN ?_ _ | refine blk_drew ?_ | refine blk_alloc ?_ _)); refine blk_far ?_ NB245_277.out _; refine blk_far ?_ NB245_277.out _; refine blk_far ?_ NB245_277.out _; refine blk_far ?_ NB245_277.out _; (with_reducible repeat (first | refine blk_drewN ?_ _ | refine blk_drew ?_ | refine blk_alloc ?_ _)); exact BK245.out))⟩; have n6_ : Aside0 (w43.heap[gb257]? = some (.cells #[.int .i64 t250, .int .i64 t251, .int .i64 t252, .slice Ao28 t253.length co28] 24 (0, 0))) := ⟨(by rw [hw]; exact (by (with_reducible repeat (first | refine blk_drewN ?_ _ | refine blk_drew ?_ | refine blk_alloc ?_ _)); refine blk_far ?_ NB257_277.out _; refine blk_far ?_ NB257_277.out _; refine blk_far ?_ NB257_277.out _; refine blk_far ?_ NB257_277.out _; (with_reducible repeat (first | refine blk_drewN ?_ _ | refine blk_drew ?_ | refine blk_alloc ?_ _)); exact BK257.out))⟩; have n7_ : Aside0 (w43.heap[gb269]? = some (.cells #[.int .i64 t262, .int .i64 t263, .int .i64 t264, .slice Ao35 t265.length co35] 24 (0, 0))) := ⟨(by rw [hw]; exact (by (with_reducible repeat (first | refine blk_drewN ?_ _ | refine blk_drew ?_ | refine blk_alloc ?_ _)); refine blk_far ?_ NB269_277.out _; refine blk_far ?_ NB269_277.out _; refine blk_far ?_ NB269_277.out _; refine blk_far ?_ NB269_277.out _; (with_reducible repeat (first | refine blk_drewN ?_ _ | refine blk_drew ?_ | refine blk_alloc ?_ _)); exact BK269.out))⟩; have n8_ : Aside0 (w43.heap[gb277]? = some (.cells #[.int .i64 t270, .int .i64 t271, .int .i64 t272, .slice Ao42 t273.length co42] 24 (0, 0))) := ⟨(by rw [hw]; exact (by (with_reducible repeat (first | refine blk_drewN ?_ _ | refine blk_drew ?_ | refine blk_alloc ?_ _)); apply Cz.a4; (with_reducible repeat (first | refine blk_drewN ?_ _ | refine blk_drew ?_ | refine blk_alloc ?_ _)); exact BK277.out))⟩; have n9_ : Aside0 (Below w.heap.size w w43) := ⟨(by rw [hw]; exact (Cz.bl (w := w)))⟩; clear hw; clear HO248; clear HO255; clear HO260; clear HO267; clear HO275; clear BK245; clear BK257; clear BK269; clear BK277; clear HB; have HO248 := n0_; have HO255 := n1_; have HO260 := n2_; have HO267 := n3_; have HO275 := n4_; have BK245 := n5_; have BK257 := n6_; have BK269 := n7_; have BK277 := n8_; have HB := n9_; clear n0_ n1_ n2_ n3_ n4_ n5_ n6_ n7_ n8_ n9_; have q44 : (20 : Int) ≤ ((t246.length : Int) : Int) := of_decide_eq_true (by first | (with_reducible assumption) | assumption); obtain ⟨i044, hi044, _, hsz44, _⟩ := info_parts info5; have hroom44 : t246.length ≤ co23 := (Kd.R_reads' HO248.out).2.1; have hC44 : Kd.C (Kd.int .u8) _ Ao23 t246.length t246 := (Kd.R_reads' HO248.out).2.2; have hcut44 := cut_to (P := Try.prog) 27 5 .i64 Try.underlying27 hi044 Ao23 t246.length co23 20 (by omega) q44 hroom44; have hr44 := Kd.C_take (m := 20) hC44 (by omega); have hy44 : y278.length = (20 : Int).toNat := (by rw [Ny278.out, List.length_take]; omega); rw [← Ny278.out] at hr44; rw [← hy44] at hcut44; have HR281 := Aside0.mk hr44; have HC281 := Aside0.mk (show y278.length ≤ co23 from by omega); clear hr44 hC44 hroom44 hi044 hsz44; have KY44 := Aside0.mk hy44; clear hy44; have KL44 := Aside0.mk (show 20 ≤ t246.length from by omega); replace q44 := eq_true q44) | ((with_reducible refine gate_callee (f := 17) rfl ?_); refine Cz.gL (N := (some 45)) Try.func17 #[.slice Ao23 y278.length co23] ?_; (with_reducible refine (stream_Begin.calls _ _ y278 t282 t283 t284 t285 t288 _ ?side1 ?side2 A8.out).mono ?_); (case side1 => repeat (first | exact (by repeat (first | (with_reducible exact HR281.out) | (with_reducible refine Kd.C_alloc ?_ _) | (with_reducible refine Kd.C_drewN ?_ _) | (with_reducible refine Kd.C_drew ?_) | exact HR281.out)) | (with_reducible refine Kd.C_alloc ?_ _) | (with_reducible refine Kd.C_drewN ?_ _) | (with_reducible refine Kd.C_drew ?_))); (case side2 => exact HC281.out); rintro e w45 ⟨v286, rfl, ho0, hb⟩; refine ⟨_, rfl, ?_⟩; have HO287 := Aside0.mk (Kd.R_lower (Kd.R_new' (Kd.R_new' (Kd.R_new' (Kd.R_new' (Kd.R_new' ho0 (Kd.R_lt (by (with_reducible repeat (first | apply Kd.R_alloc | apply Kd.R_drewN | apply Kd.R_drew)); exact HO248.out))) (Kd.R_lt (by (with_reducible repeat (first | apply Kd.R_alloc | apply Kd.R_drewN | apply Kd.R_drew)); exact HO255.out))) (Kd.R_lt (by (with_reducible repeat (first | apply Kd.R_alloc | apply Kd.R_drewN | apply Kd.R_drew)); exact HO260.out))) (Kd.R_lt (by (with_reducible repeat (first | apply Kd.R_alloc | apply Kd.R_drewN | apply Kd.R_drew)); exact HO267.out))) (Kd.R_lt (by (with_reducible repeat (first | apply Kd.R_alloc | apply Kd.R_drewN | apply Kd.R_drew)); exact HO275.out))) (below_size (Cz.bl (w := w)))); replace HO248 := Cz.rb HO248 hb; replace HO255 := Aside0.mk (Kd.R_elder' (Cz.rq HO255) (Kd.R_base ho0) hb); replace HO260 := Cz.rb HO260 hb; replace HO267 := Aside0.mk (Kd.R_elder' (Cz.rq HO267) (Kd.R_base ho0) hb); replace HO275 := Aside0.mk (Kd.R_elder' (Cz.rq HO275) (Kd.R_base ho0) hb); replace BK245 := Cz.bk BK245 hb; replace BK257 := Cz.bk BK257 hb; replace BK269 := Cz.bk BK269 hb; replace BK277 := Cz.bk BK277 hb; replace HR281 := Aside0.mk (Kd.C_below (by repeat (first | (with_reducible exact HR281.out) | (with_reducible refine Kd.C_alloc ?_ _) | (with_reducible refine Kd.C_drewN ?_ _) | (with_reducible refine Kd.C_drew ?_) | exact HR281.out)) hb); replace HB := Cz.bs (w := w) hb; (try clear hb); (try clear ho0)) | ((with_reducible refine gate_dst (N := 12) rfl ?_); refine Cz.bx (N := 12) #[.int .i64 0, .int .i64 0, .int .i64 0, .slice none 0 0] 24 ?_; intro gb289 hg w46 hbox hb; have BK289 := Aside0.mk (hbox); have GW289 := Aside0.mk ((Cz.gs hg : w.heap.size ≤ gb289)); have GE289 := GW289; have NB245_289 := Aside0.mk ((Cz.nl BK245 hg : gb245 ≠ gb289)); have NB289_245 := Aside0.mk ((Cz.nr BK245 hg : gb289 ≠ gb245)); have NB257_289 := Aside0.mk ((Cz.nl BK257 hg : gb257 ≠ gb289)); have NB289_257 := Aside0.mk ((Cz.nr BK257 hg : gb289 ≠ gb257)); have NB269_289 := Aside0.mk ((Cz.nl BK269 hg : gb269 ≠ gb289)); have NB289_269 := Aside0.mk ((Cz.nr BK269 hg : gb289 ≠ gb269)); have NB277_289 := Aside0.mk ((Cz.nl BK277 hg : gb277 ≠ gb289)); have NB289_277 := Aside0.mk ((Cz.nr BK277 hg : gb289 ≠ gb277)); replace HO248 := Cz.rb HO248 hb; replace HO255 := Cz.rb HO255 hb; replace HO260 := Cz.rb HO260 hb; replace HO267 := Cz.rb HO267 hb; replace HO275 := Cz.rb HO275 hb; replace HO287 := Cz.rb HO287 hb; replace BK245 := Cz.bk BK245 hb; replace BK257 := Cz.bk BK257 hb; replace BK269 := Cz.bk BK269 hb; replace BK277 := Cz.bk BK277 hb; replace HR281 := Aside0.mk (Kd.C_below (by repeat (first | (with_reducible exact HR281.out) | (with_reducible refine Kd.C_alloc ?_ _) | (with_reducible refine Kd.C_drewN ?_ _) | (with_reducible refine Kd.C_drew ?_) | exact HR281.out)) hb); replace HB := Cz.bs (w := w) hb; clear hb hbox hg; have hnb47 := NB289_245.out; have hnc47 := NB245_289.out; have hnb48 := NB289_257.out; have hnc48 := NB257_289.out; have hnb49 := NB289_269.out; have hnc49 := NB269_289.out; have hnb50 := NB289_277.out; have hnc50 := NB277_289.out; obtain ⟨z51_0, z51_1, z51_2, z51_3, y51_0, y51_1, y51_2, y51_3⟩ := Cz.d4 BK289; obtain ⟨Ao52, co52, eo52⟩ := Kd.R_slice HO287.out; subst eo52; obtain ⟨z53_0, z53_1, z53_2, z53_3, y53_0, y53_1, y53_2, y53_3⟩ := Cz.d4 BK245; obtain ⟨z54_0, z54_1, z54_2, z54_3, y54_0, y54_1, y54_2, y54_3⟩ := Cz.d4 BK257) | ((with_reducible refine gate_callee (f := 30) rfl ?_); refine Cz.gL (N := (some 50)) Try.func30 #[.agg #[.int .i64 8, .int .i64 0, .int .i64 1, .slice none 0 0], .agg #[.int .i64 t250, .int .i64 t251, .int .i64 t252, .slice Ao28 t253.length co28]] ?_; (refine (waggonerref17_Same.calls 8 0 1 _ _ ([] : List (S36)) t250 t251 t252 _ _ t253 true _ ?side1 ?side2 ?side3 ?side4 A9.out).mono ?_); (case side1 => exact Kd.C_nil _ _); (case side2 => exact Nat.le_refl _); (case side3 => refine (Kd.R_reads' (e := 36) (base := w.heap.size) (ok := fun k_ => ((some k_ ≠ (.slice Ao23 t246.length co23 : Value).ownBlock ∧ (some k_ ≠ (v259 : Value).ownBlock ∧ (some k_ ≠ (.slice Ao35 t265.length co35 : Value).ownBlock ∧ some k_ ≠ (.slice Ao42 t273.length co42 : Value).ownBlock))) ∧ some k_ ≠ (.slice Ao52 t285.length co52 : Value).ownBlock)) (n := t253.length) (c := co28) ?_).2.2; exact (by (with_reducible repeat (first | apply Kd.R_alloc | apply Kd.R_drewN | apply Kd.R_drew)); exact (Kd.R_mono (Cz.rf (Cz.rf (Cz.rf (Cz.rf (Kd.R_types HO255.out BK289.out (by decide)))))) (fun _ h_ => h_.1)))); (case side4 => exact (Kd.R_reads' HO255.out).2.1); rintro e w55 ⟨rfl, hb⟩; refine ⟨_, rfl, ?_⟩; replace HO248 := Aside0.mk (Kd.R_below (by (with_reducible repeat (first | apply Kd.R_alloc | apply Kd.R_drewN | apply Kd.R_drew)); exact (Kd.R_mono (Cz.rf (Cz.rf (Cz.rf (Cz.rf (Kd.R_types HO248.out BK289.out (by decide)))))) (fun _ h_ => h_.1))) hb); replace HO255 := Aside0.mk (Kd.R_below (by (with_reducible repeat (first | apply Kd.R_alloc | apply Kd.R_drewN | apply Kd.R_drew)); exact (Kd.R_mono (Cz.rf (Cz.rf (Cz.rf (Cz.rf (Kd.R_types HO255.out BK289.out (by decide)))))) (fun _ h_ => h_.1))) hb); replace HO260 := Aside0.mk (Kd.R_below (by (with_reducible repeat (first | apply Kd.R_alloc | apply Kd.R_drewN | apply Kd.R_drew)); exact (Kd.R_mono (Cz.rf (Cz.rf (Cz.rf (Cz.rf (Kd.R_types HO260.out BK289.out (by decide)))))) (fun _ h_ => h_.1))) hb); replace HO267 := Aside0.mk (Kd.R_below (by (with_reducible repeat (first | apply Kd.R_alloc | apply Kd.R_drewN | apply Kd.R_drew)); exact (Kd.R_mono (Cz.rf (Cz.rf (Cz.rf (Cz.rf (Kd.R_types HO267.out BK289.out (by decide)))))) (fun _ h_ => h_.1))) hb); replace HO275 := Aside0.mk (Kd.R_below (by (with_reducible repeat (first | apply Kd.R_alloc | apply Kd.R_drewN | apply Kd.R_drew)); exact (Kd.R_mono (Cz.rf (Cz.rf (Cz.rf (Cz.rf (Kd.R_types HO275.out BK289.out (by decide)))))) (fun _ h_ => h_.1))) hb); replace HO287 := Aside0.mk (Kd.R_below (by (with_reducible repeat (first | apply Kd.R_alloc | apply Kd.R_drewN | apply Kd.R_drew)); exact (Kd.R_mono (Cz.rf (Cz.rf (Cz.rf (Cz.rf (Kd.R_types HO287.out BK289.out (by decide)))))) (fun _ h_ => h_.1))) hb); replace BK245 := Aside0.mk (blk_below (g := gb245) (o := .cells #[.int .i64 8, .int .i64 0, .int .i64 1, .slice none 0 0] 24 (0, 0)) (by (with_reducible repeat (first | refine blk_drewN ?_ _ | refine blk_drew ?_ | refine blk_alloc ?_ _)); refine blk_far ?_ NB245_289.out _; refine blk_far ?_ NB245_289.out _; refine blk_far ?_ NB245_289.out _; refine blk_far ?_ NB245_289.out _; (with_reducible repeat (first | refine blk_drewN ?_ _ | refine blk_drew ?_ | refine blk_alloc ?_ _)); exact BK245.out) hb); replace BK257 := Aside0.mk (blk_below (g := gb257) (o := .cells #[.int .i64 t250, .int .i64 t251, .int .i64 t252, .slice Ao28 t253.length co28] 24 (0, 0)) (by (with_reducible repeat (first | refine blk_drewN ?_ _ | refine blk_drew ?_ | refine blk_alloc ?_ _)); refine blk_far ?_ NB257_289.out _; refine blk_far ?_ NB257_289.out _; refine blk_far ?_ NB257_289.out _; refine blk_far ?_ NB257_289.out _; (with_reducible repeat (first | refine blk_drewN ?_ _ | refine blk_drew ?_ | refine blk_alloc ?_ _)); exact BK257.out) hb); replace BK269 := Aside0.mk (blk_below (g := gb269) (o := .cells #[.int .i64 t262, .int .i64 t263, .int .i64 t264, .slice Ao35 t265.length co35] 24 (0, 0)) (by (with_reducible repeat (first | refine blk_drewN ?_ _ | refine blk_drew ?_ | refine blk_alloc ?_ _)); refine blk_far ?_ NB269_289.out _; refine blk_far ?_ NB269_289.out _; refine blk_far ?_ NB269_289.out _; refine blk_far ?_ NB269_289.out _; (with_reducible repeat (first | refine blk_drewN ?_ _ | refine blk_drew ?_ | refine blk_alloc ?_ _)); exact BK269.out) hb); replace BK277 := Aside0.mk (blk_below (g := gb277) (o := .cells #[.int .i64 t270, .int .i64 t271, .int .i64 t272, .slice Ao42 t273.length co42] 24 (0, 0)) (by (with_reducible repeat (first | refine blk_drewN ?_ _ | refine blk_drew ?_ | refine blk_alloc ?_ _)); refine blk_far ?_ NB277_289.out _; refine blk_far ?_ NB277_289.out _; refine blk_far ?_ NB277_289.out _; refine blk_far ?_ NB277_289.out _; (with_reducible repeat (first | refine blk_drewN ?_ _ | refine blk_drew ?_ | refine blk_alloc ?_ _)); exact BK277.out) hb); replace BK289 := Aside0.mk (blk_below (g := gb289) (o := .cells #[.int .i64 t282, .int .i64 t283, .int .i64 t284, .slice Ao52 t285.length co52] 24 (0, 0)) (by (with_reducible repeat (first | refine blk_drewN ?_ _ | refine blk_drew ?_ | refine blk_alloc ?_ _)); apply Cz.a4; (with_reducible repeat (first | refine blk_drewN ?_ _ | refine blk_drew ?_ | refine blk_alloc ?_ _)); exact BK289.out) hb); replace HB := Cz.bs (w := w) hb; (try clear hb); (try clear hk); obtain ⟨z56_0, z56_1, z56_2, z56_3, y56_0, y56_1, y56_2, y56_3⟩ := Cz.d4 BK289; obtain ⟨z57_0, z57_1, z57_2, z57_3, y57_0, y57_1, y57_2, y57_3⟩ := Cz.d4 BK245) | (go_at_call 31; (with_reducible show Calls _ _ #[.agg #[.int .i64 8, .int .i64 0, .int .i64 1, _]] _ _); (refine (stream_Check.calls 8 0 1 _ _ ([] : List (S36)) true _ ?side1 ?side2 A18.out).mono ?_); (case side1 => exact Kd.C_nil _ _); (case side2 => exact Nat.le_refl _); rintro e w58 ⟨rfl, hb⟩; replace HO248 := Cz.rb HO248 hb; replace HO255 := Cz.rb HO255 hb; replace HO260 := Cz.rb HO260 hb; replace HO267 := Cz.rb HO267 hb; replace HO275 := Cz.rb HO275 hb; replace HO287 := Cz.rb HO287 hb; replace BK245 := Cz.bk BK245 hb; replace BK257 := Cz.bk BK257 hb; replace BK269 := Cz.bk BK269 hb; replace BK277 := Cz.bk BK277 hb; replace BK289 := Cz.bk BK289 hb; replace HB := Cz.bs (w := w) hb; (try clear hb)))
            go_ret
            exact ⟨by first | rfl | (exact congrArg (fun z_ => Ending.returned (Value.bool z_)) HRT.out) | (rw [HRT.out]; done) | (simp [errW_none, errW_some] <;> rfl) | (simp [*, errW_none, errW_some] <;> rfl), Cz.bl (w := w)⟩
           ·replace c19 := Bool.eq_false_iff.mpr c19
            subst c19
            have H1 : (some false) = some true := by rw [if_neg (show ¬ (false = true) by decide)] at H <;> exact H
            exact absurd H1 (by simp)
          ·rw [if_neg c17] at H
           first | exact absurd H (by simp; done) | skip
         ·rw [if_neg c16] at H
          first | exact absurd H (by simp; done) | skip
        ·rw [if_neg c15] at H
         first | exact absurd H (by simp; done) | skip
       ·rw [if_neg c14] at H
        first | exact absurd H (by simp; done) | skip
      ·rw [if_neg c13] at H
       first | exact absurd H (by simp; done) | skip
     ·rw [if_neg c12] at H
      first | exact absurd H (by simp; done) | skip
    ·replace c11 := Bool.eq_false_iff.mpr c11
     subst c11
     have H1 : (some false) = some true := by rw [if_neg (show ¬ (false = true) by decide)] at H <;> exact H
     exact absurd H1 (by simp)
   ·rw [if_neg c10] at H
    first | exact absurd H (by simp; done) | skip
  ·rw [if_neg c7] at H
   exact absurd H (by simp)
 ·rw [if_neg c6] at H
  first | exact absurd H (by simp; done) | skip
def waggonerlaw17_awake.f : Option Bool := some true
theorem aw_begin {b : List Int} (hb : Pl.byteB b = true) (hl : b.length < 1000000000) {B P T e : Int} {L : List Pl.Ext} (h : Pl.beginS b = ((B, P, T, L), e)) : stream_Begin.f b = some (B, P, T, L.map ofE, e) := by
 rw [stream_Begin.tells hb hl, h]
theorem aw_read {b : List Int} (hb : Pl.byteB b = true) (hl : b.length < 1000000000) {B P T e : Int} {L : List Pl.Ext} (h : Pl.sreadS b = ((B, P, T, L), e)) : stream_Read.f b = some (B, P, T, L.map ofE, e) := by
 unfold stream_Read.f
 rw [stream_Begin.tells hb hl, Option.bind_some]
 unfold Pl.sreadS at h
 dsimp only
 split at h
 ·rename_i h0
  rw [if_pos h0, h]
  dsimp only
  rw [h] at h0
  rw [show e = 0 from h0]
 ·rename_i h0
  rw [if_neg h0]
  simp only [Pl.stZ, Prod.mk.injEq] at h
  obtain ⟨⟨rfl, rfl, rfl, rfl⟩, rfl⟩ := h
  rfl
theorem aw_same {B P T : Int} {l : List S36} {B' P' T' : Int} {l' : List S36} (h0 : ∀ s ∈ l, Pl.byteB s.f4 = true) (h1 : ∀ s ∈ l', Pl.byteB s.f4 = true) (h2 : l.length < 1073741824) : waggonerref17_Same.f B P T l B' P' T' l' = some (decide (B = B' ∧ P = P' ∧ T = T' ∧ l.map toE = l'.map toE)) := by
 unfold waggonerref17_Same.f
 rw [waggonerref07_All.tells h0 h1 h2, Option.bind_some]
 by_cases c0 : B = B'
 ·by_cases c1 : P = P'
  ·by_cases c2 : T = T'
   ·rw [if_pos c0, if_pos c1, if_pos c2]; simp [c0, c1, c2]
   ·rw [if_pos c0, if_pos c1, if_neg c2]; simp [c2]
  ·rw [if_pos c0, if_neg c1]; simp [c1]
 ·rw [if_neg c0]; simp [c0]
theorem waggonerlaw17_awake.tells : waggonerlaw17_awake_p.f = some true := by
 have hok : Pl.stOk 8 0 1 [] = true := by decide
 have hb : ∀ x ∈ ([] : List Pl.Ext), Pl.byteB x.2.2.2.2 = true := fun x hx => absurd hx (by simp)
 have hw : stream_Write.f 8 0 1 [] = some (Pl.stW 8 0 1 [], 0) := by rw [stream_Write.tells (fun s hs => absurd hs (by simp)), List.map_nil, Pl.swriteS, if_pos hok]
 have hz : stream_Write.f 0 0 0 [] = some ([], 170) := by rw [stream_Write.tells (fun s hs => absurd hs (by simp)), List.map_nil, Pl.swriteS, if_neg (by decide)]
 have hby := Pl.stW_byte (B := 8) (P := 0) (T := 1) hb
 have hlen := Pl.stW_length hok
 have h29 : (Pl.stW 8 0 1 []).length = 29 := by have h1 := hlen.1; simp at h1; omega
 have hr : stream_Read.f (Pl.stW 8 0 1 []) = some (8, 0, 1, [], 0) := aw_read hby (by omega) (Pl.sreadS_write hok hb)
 have he : stream_Begin.f [] = some (0, 0, 0, [], 161) := aw_begin (b := []) rfl (by decide) (by rfl)
 have hn : stream_Read.f [] = some (0, 0, 0, [], 170) := aw_read (b := []) rfl (by decide) (by rfl)
 obtain ⟨i, t, hi, hadv, hbeg, hle, hlt⟩ := Pl.beginS_take hok hb (j := 20) (by omega)
 have h16 := Pl.frWT_head 8 0 1
 have hF : Pl.stF 8 0 1 [] = [Pl.stH 8 0 1] := rfl
 have hi1 : i = 1 := by
  rw [hF] at hi hlt
  cases i with
  | zero =>
   have h1 := hlt (by simp)
   simp [Pl.fsB, h16] at h1
  | succ n => simp at hi; omega
 subst hi1
 have ht : t = (8, 0, 1, []) := by
  have h1 := Pl.stF_advs hok
  rw [show (Pl.stF 8 0 1 []).take 1 = Pl.stF 8 0 1 [] from rfl, h1] at hadv
  exact (Option.some.inj hadv).symm
 subst ht
 have hg : stream_Begin.f ((Pl.stW 8 0 1 []).take 20) = some (8, 0, 1, [], 161) := aw_begin (Pl.byteB_take hby 20) (by rw [List.length_take]; omega) hbeg
 have hs : waggonerref17_Same.f 8 0 1 [] 8 0 1 [] = some true := by rw [aw_same (fun s hs => absurd hs (by simp)) (fun s hs => absurd hs (by simp)) (by decide)]; rfl
 have hc : stream_Check.f 8 0 1 [] = some true := by unfold stream_Check.f; rw [List.map_nil, hok]
 unfold waggonerlaw17_awake_p.f
 rw [hw, Option.bind_some]
 dsimp only
 rw [hr, Option.bind_some, hz, Option.bind_some, hn, Option.bind_some, he, Option.bind_some, if_pos (by omega), if_pos (by omega), hg, Option.bind_some]
 dsimp only
 rw [hs, Option.bind_some, if_pos rfl, if_pos rfl, if_pos rfl, if_pos rfl, if_pos rfl, if_pos rfl, if_pos rfl, if_pos rfl, hc, Option.bind_some, if_pos rfl]
theorem waggonerlaw17_awake.calls (r : Bool) (w : World) (h : waggonerlaw17_awake.f = some r) :
  Calls Try.prog 14 #[] w fun e w' => e = .returned (.bool r) ∧ Below w.heap.size w w' := by
 unfold waggonerlaw17_awake.f at h
 obtain rfl := Option.some.inj h
 exact waggonerlaw17_awake_p.calls true rfl w waggonerlaw17_awake.tells
def waggonerlaw07_Few_p.l0 : Nat → List (S36) → Int → Option (Bool)
 | 0, _, _ => none
 | k + 1, x0, x3 => if x3 < (x0.length : Int) then (if 0 ≤ x3 then (if (((rd_T36 x0 x3).f4).length : Int) > 3000 then (some false) else (waggonerlaw07_Few_p.l0 k x0 (wrap64 (x3 + 1)))) else (none)) else (some true)
def waggonerlaw07_Few_p.f (k : Nat) (l0 : List (S36)) : Option (Bool) := if (l0.length : Int) > 70 then (some false) else (waggonerlaw07_Few_p.l0 k l0 0)
set_option maxHeartbeats 8000000 in
set_option maxRecDepth 100000 in
theorem waggonerlaw07_Few_p.calls (k : Nat) (A0 : Option Addr) (c0 : Nat) (l0 : List (S36)) (r : Bool) (w : World) (hr0 : Kd.C k36 w A0 l0.length l0) (hc0 : l0.length ≤ c0) (h : waggonerlaw07_Few_p.f k l0 = some r) :
  Calls Try.prog 36 #[.slice A0 l0.length c0] w fun e w' => e = .returned (.bool r) ∧ Drawn0 w w' := by
 have HR0 := Aside0.mk hr0
 have HC0 := Aside0.mk hc0
 clear hr0 hc0
 have H : (if (l0.length : Int) > 70 then (some false) else (waggonerlaw07_Few_p.l0 k l0 0)) = some r := h
 clear h
 by_cases c2 : (l0.length : Int) > 70
 ·rw [if_pos c2] at H
  have c2b0 : decide (70 < (l0.length : Int)) = true := decide_eq_true c2
  have c2b1 : decide (70 < l0.length) = true := decide_eq_true (by omega)
  clear c2
  obtain rfl := Option.some.inj H
  go_enter Try.func36, Try.ntmps36
  go_wp2
  go_ret
  exact ⟨by first | rfl | (simp; done) | (simp [*]; done), by repeat (first | exact Drawn0.refl _ | apply Drawn0.step)⟩
 ·rw [if_neg c2] at H
  have c2b0 : decide (70 < (l0.length : Int)) = false := decide_eq_false c2
  have c2b1 : decide (70 < l0.length) = false := decide_eq_false (by omega)
  clear c2
  have H' := Aside0.mk H
  clear H
  go_enter Try.func36, Try.ntmps36
  go_wp2
  go_loopg [3] k (fun kq v3 w' => ∃ (x3_1 : Int), v3 = .int .i64 x3_1 ∧ Aside0 (waggonerlaw07_Few_p.l0 kq l0 x3_1 = some r) ∧ Aside0 (kq ≤ k) ∧ Drawn0 w w')
  case atStart => exact ⟨(0), Cz.si, H', ⟨Nat.le_refl _⟩, by repeat (first | exact Drawn0.refl _ | apply Drawn0.step)⟩
  case round =>
   clear H'
   try clear c2
   try clear c2b0
   try clear c2b1
   try clear p2
   obtain ⟨x3_1, rfl, HA, HK1, ⟨m1, rfl⟩⟩ := hrel
   cases gk with
   | zero => exact absurd HA.out (by simp [waggonerlaw07_Few_p.l0])
   | succ k1 =>
    have H := HA.out
    clear HA
    simp only [waggonerlaw07_Few_p.l0] at H
    by_cases c3 : x3_1 < (l0.length : Int)
    ·rw [if_pos c3] at H
     have c3b0 : decide (x3_1 < (l0.length : Int)) = true := decide_eq_true c3
     clear c3
     by_cases c4 : 0 ≤ x3_1
     ·rw [if_pos c4] at H
      have c4b0 : decide (0 ≤ x3_1) = true := decide_eq_true c4
      clear c4
      by_cases c5 : (((rd_T36 l0 x3_1).f4).length : Int) > 3000
      ·rw [if_pos c5] at H
       have c5b0 : decide (3000 < (((rd_T36 l0 x3_1).f4).length : Int)) = true := decide_eq_true c5
       have c5b1 : decide (3000 < ((rd_T36 l0 x3_1).f4).length) = true := decide_eq_true (by omega)
       clear c5
       obtain rfl := Option.some.inj H
       have p292 : 0 ≤ (x3_1 : Int) := of_decide_eq_true (by first | (with_reducible assumption) | assumption)
       have q292 : x3_1 < (l0.length : Int) := of_decide_eq_true (by first | (with_reducible assumption) | assumption)
       obtain ⟨ad292, A292_4, c292_4, e292, hx292_0, hx292_1, hx292_2, hx292_3, hx292_4, hl292_4, hi292_4⟩ := at_T36 HR0.out x3_1 p292 q292
       cases e292
       have HR292_4 := Aside0.mk hi292_4
       have HC292_4 := Aside0.mk hl292_4
       clear hi292_4 hl292_4
       replace p292 := eq_true p292
       replace q292 := eq_true q292
       go_wp2
       go_ret
       exact ⟨by first | rfl | (simp; done) | (simp [*]; done), by repeat (first | exact Drawn0.refl _ | apply Drawn0.step)⟩
      ·rw [if_neg c5] at H
       have c5b0 : decide (3000 < (((rd_T36 l0 x3_1).f4).length : Int)) = false := decide_eq_false c5
       have c5b1 : decide (3000 < ((rd_T36 l0 x3_1).f4).length) = false := decide_eq_false (by omega)
       clear c5
       have H' := Aside0.mk H
       clear H
       have p292 : 0 ≤ (x3_1 : Int) := of_decide_eq_true (by first | (with_reducible assumption) | assumption)
       have q292 : x3_1 < (l0.length : Int) := of_decide_eq_true (by first | (with_reducible assumption) | assumption)
       obtain ⟨ad292, A292_4, c292_4, e292, hx292_0, hx292_1, hx292_2, hx292_3, hx292_4, hl292_4, hi292_4⟩ := at_T36 HR0.out x3_1 p292 q292
       cases e292
       have HR292_4 := Aside0.mk hi292_4
       have HC292_4 := Aside0.mk hl292_4
       clear hi292_4 hl292_4
       replace p292 := eq_true p292
       replace q292 := eq_true q292
       go_wp2
       go_roundg k1
       case measure => have := HK1.out; omega
       case rel => exact ⟨(wrap64 (x3_1 + 1)), Cz.si, H', ⟨by have := HK1.out; omega⟩, by repeat (first | exact Drawn0.refl _ | apply Drawn0.step)⟩
     ·rw [if_neg c4] at H
      exact absurd H (by simp)
    ·rw [if_neg c3] at H
     have c3b0 : decide (x3_1 < (l0.length : Int)) = false := decide_eq_false c3
     clear c3
     obtain rfl := Option.some.inj H
     go_wp2
     go_ret
     exact ⟨by first | rfl | (simp; done) | (simp [*]; done), by repeat (first | exact Drawn0.refl _ | apply Drawn0.step)⟩
def waggonerlaw07_Few.f (l0 : List S36) : Option Bool := some (decide (l0.length ≤ 70) && l0.all fun s => decide (s.f4.length ≤ 3000))
theorem waggonerlaw07_Few.loop {l0 : List S36} (h2 : l0.length ≤ 70) : ∀ (d k i : Nat), l0.length - i = d → i ≤ l0.length → d < k → waggonerlaw07_Few_p.l0 k l0 (i : Int) = some ((l0.drop i).all fun s => decide (s.f4.length ≤ 3000))
 | 0, k, i, hd, hi, hk => by
  obtain ⟨k, rfl⟩ : ∃ m, k = m + 1 := ⟨k - 1, by omega⟩
  rw [waggonerlaw07_Few_p.l0, if_neg (by omega), List.drop_of_length_le (by omega)]
  rfl
 | d + 1, k, i, hd, hi, hk => by
  obtain ⟨k, rfl⟩ : ∃ m, k = m + 1 := ⟨k - 1, by omega⟩
  have hi0 : i < l0.length := by omega
  rw [waggonerlaw07_Few_p.l0, if_pos (by omega), if_pos (by omega), rd_getE l0 i hi0, List.drop_eq_getElem_cons hi0, List.all_cons]
  by_cases he : l0[i].f4.length ≤ 3000
  ·rw [if_neg (by omega), show wrap64 ((i : Int) + 1) = ((i + 1 : Nat) : Int) by unfold wrap64; omega, waggonerlaw07_Few.loop h2 d k (i + 1) (by omega) (by omega) (by omega), decide_eq_true he]
   rfl
  ·rw [if_pos (by omega), decide_eq_false he]
   rfl
theorem waggonerlaw07_Few.closes {l0 : List S36} {r : Bool} (h : waggonerlaw07_Few.f l0 = some r) : waggonerlaw07_Few_p.f (l0.length + 1) l0 = some r := by
 rw [← h]
 unfold waggonerlaw07_Few_p.f waggonerlaw07_Few.f
 by_cases hl : l0.length ≤ 70
 ·rw [if_neg (by omega), decide_eq_true hl]
  exact waggonerlaw07_Few.loop hl l0.length _ 0 (by omega) (by omega) (by omega)
 ·rw [if_pos (by omega), decide_eq_false hl]
  rfl
theorem waggonerlaw07_Few.calls (A0 : Option Addr) (c0 : Nat) (l0 : List (S36)) (r : Bool) (w : World) (hr0 : Kd.C k36 w A0 l0.length l0) (hc0 : l0.length ≤ c0) (h : waggonerlaw07_Few.f l0 = some r) :
  Calls Try.prog 36 #[.slice A0 l0.length c0] w fun e w' => e = .returned (.bool r) ∧ Drawn0 w w' :=
 waggonerlaw07_Few_p.calls (l0.length + 1) A0 c0 l0 r w hr0 hc0 (waggonerlaw07_Few.closes h)
def waggonerlaw17_few.f (a0_0 : Int) (a0_1 : Int) (a0_2 : Int) (l0_3 : List (S36)) : Option (Bool) := (waggonerlaw07_Few.f l0_3).bind fun t294 => (some t294)
set_option maxHeartbeats 8000000 in
set_option maxRecDepth 100000 in
theorem waggonerlaw17_few.calls (a0_0 : Int) (a0_1 : Int) (a0_2 : Int) (A0_3 : Option Addr) (c0_3 : Nat) (l0_3 : List (S36)) (r : Bool) (w : World) (hr0_3 : Kd.C k36 w A0_3 l0_3.length l0_3) (hc0_3 : l0_3.length ≤ c0_3) (h : waggonerlaw17_few.f a0_0 a0_1 a0_2 l0_3 = some r) :
  Calls Try.prog 16 #[.agg #[.int .i64 a0_0, .int .i64 a0_1, .int .i64 a0_2, .slice A0_3 l0_3.length c0_3]] w fun e w' => e = .returned (.bool r) ∧ Below w.heap.size w w' := by
 have hu24 := Try.underlying24
 have HR0_3 := Aside0.mk hr0_3
 have HC0_3 := Aside0.mk hc0_3
 clear hr0_3 hc0_3
 have HB := Aside0.mk (Below.refl w.heap.size w)
 have H : ((waggonerlaw07_Few.f l0_3).bind fun t294 => (some t294)) = some r := h
 clear h
 replace H := Option.bind_eq_some_iff.mp H
 obtain ⟨t294, A20, H⟩ := H
 (try dsimp only at H)
 have A2 := Aside0.mk A20
 clear A20
 obtain rfl := Option.some.inj H
 go_enter Try.func16, Try.ntmps16
 go_wp2_with (first | ((with_reducible refine gate_dst (N := 1) rfl ?_); refine Cz.bx (N := 1) #[.int .i64 a0_0, .int .i64 a0_1, .int .i64 a0_2, .slice A0_3 l0_3.length c0_3] 24 ?_; intro gb293 hg w3 hbox hb; have BK293 := Aside0.mk (hbox); have GW293 := Aside0.mk ((Cz.gs hg : w.heap.size ≤ gb293)); have GE293 := GW293; replace HB := Cz.bs (w := w) hb; clear hb hbox hg; obtain ⟨z4_0, z4_1, z4_2, z4_3, y4_0, y4_1, y4_2, y4_3⟩ := Cz.d4 BK293) | ((with_reducible refine gate_callee (f := 36) rfl ?_); refine Cz.gL (N := (some 5)) Try.func36 #[.slice A0_3 l0_3.length c0_3] ?_; (with_reducible refine (waggonerlaw07_Few.calls _ _ l0_3 t294 _ ?side1 ?side2 A2.out).mono ?_); (case side1 => exact Cz.cb HR0_3); (case side2 => exact HC0_3.out); rintro e w' ⟨rfl, ⟨nd, rfl⟩⟩; refine ⟨_, rfl, ?_⟩))
 go_ret
 exact ⟨Cz.er, Cz.bl (w := w)⟩
end Go.Proofs.Ytohkmmbmfhficaa.PM
