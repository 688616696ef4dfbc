/- Words and walks that this claim names, of those that the kit's print and programs of this workplace have printed. -/
import Derived.Test.YtmgohkffphogdaaZUCz
import Derived.Test.YtmgohkffphogdaaZUPUx15
import Derived.Test.YtmgohkffphogdaaZUPUx24
import Derived.Test.YtmgohkffphogdaaZUPUx31
import Derived.Test.YtmgohkffphogdaaZUPUx38
import Derived.Test.YtmgohkffphogdaaZUPUx40
namespace Go.Proofs.Ytmgohkffphogdaa.PU
open Go.Proofs.Ytmgohkffphogdaa Go.RowKit Go.Proofs.YtmgohkffphogdaaW.PrintWords Go.Proofs.YtmgohkffphogdaaW.PrintLast Go.Proofs.YtmgohkffphogdaaW.PrintMore
attribute [local go_sem] max2_int min2_int max_two min_two max_three min_three max_four min_four
set_option linter.unusedVariables false
set_option linter.unusedSimpArgs false
def waggonerlaw10_awake_p.f  : Option (Bool) := (change_Write.f 3 3 5 0 ([] : List Int) ([] : List (S39))).bind fun bt198 => ((change_Read.f bt198.1).bind fun bt202 => ((change_Write.f 0 0 0 0 ([] : List Int) ([] : List (S39))).bind fun bt214 => ((change_Read.f ([] : List Int)).bind fun bt218 => ((waggonerref10_Same.f 3 3 5 0 ([] : List Int) ([] : List (S39)) bt202.1 bt202.2.1 bt202.2.2.1 bt202.2.2.2.1 bt202.2.2.2.2.1 bt202.2.2.2.2.2.1).bind fun t230 => (if (strOfNums bt198.1).toList = (strOfNums (([3, 3, 5, 0, 0, 0, 0, 0, 0] : List Int))).toList then (if bt198.2 = 0 then (if t230 = true then (if bt202.2.2.2.2.2.2 = 0 then (if bt214.2 = 100 then (if bt218.2.2.2.2.2.2 = 100 then ((change_Check.f 3 3 5 0 ([] : List Int) ([] : List (S39))).bind fun t234 => (if t234 = true then ((change_Check.f 9 0 0 0 ([] : List Int) ([] : List (S39))).bind fun t235 => (if t235 = true then (some false) else (some true))) else (some false))) else (some false)) else (some false)) else (some false)) else (some false)) else (some false)) else (some false))))))
set_option maxHeartbeats 8000000 in
set_option maxRecDepth 100000 in
theorem waggonerlaw10_awake_p.calls  (r : Bool) (hT : r = true) (w : World) (h : waggonerlaw10_awake_p.f  = some r) :
  Calls Try.prog 9 #[] w fun e w' => e = .returned (.bool r) ∧ Below w.heap.size w w' := by
 subst hT
 have hu26 := Try.underlying26
 have HB := Aside0.mk (Below.refl w.heap.size w)
 have H : ((change_Write.f 3 3 5 0 ([] : List Int) ([] : List (S39))).bind fun bt198 => ((change_Read.f bt198.1).bind fun bt202 => ((change_Write.f 0 0 0 0 ([] : List Int) ([] : List (S39))).bind fun bt214 => ((change_Read.f ([] : List Int)).bind fun bt218 => ((waggonerref10_Same.f 3 3 5 0 ([] : List Int) ([] : List (S39)) bt202.1 bt202.2.1 bt202.2.2.1 bt202.2.2.2.1 bt202.2.2.2.2.1 bt202.2.2.2.2.2.1).bind fun t230 => (if (strOfNums bt198.1).toList = (strOfNums (([3, 3, 5, 0, 0, 0, 0, 0, 0] : List Int))).toList then (if bt198.2 = 0 then (if t230 = true then (if bt202.2.2.2.2.2.2 = 0 then (if bt214.2 = 100 then (if bt218.2.2.2.2.2.2 = 100 then ((change_Check.f 3 3 5 0 ([] : List Int) ([] : List (S39))).bind fun t234 => (if t234 = true then ((change_Check.f 9 0 0 0 ([] : List Int) ([] : List (S39))).bind fun t235 => (if t235 = true then (some false) else (some true))) else (some false))) else (some false)) else (some false)) else (some false)) else (some false)) else (some false)) else (some false))))))) = some true := h
 clear h
 replace H := Option.bind_eq_some_iff.mp H
 obtain ⟨⟨t198, t201⟩, A10, H⟩ := H
 (try dsimp only at H)
 have A1 := Aside0.mk A10
 clear A10
 replace H := Option.bind_eq_some_iff.mp H
 obtain ⟨⟨t202, t203, t204, t205, t206, t209, t212⟩, A20, H⟩ := H
 (try dsimp only at H)
 have A2 := Aside0.mk A20
 clear A20
 replace H := Option.bind_eq_some_iff.mp H
 obtain ⟨⟨t214, t217⟩, A30, H⟩ := H
 (try dsimp only at H)
 have A3 := Aside0.mk A30
 clear A30
 replace H := Option.bind_eq_some_iff.mp H
 obtain ⟨⟨t218, t219, t220, t221, t222, t225, t228⟩, A40, H⟩ := H
 (try dsimp only at H)
 have A4 := Aside0.mk A40
 clear A40
 replace H := Option.bind_eq_some_iff.mp H
 obtain ⟨t230, A50, H⟩ := H
 (try dsimp only at H)
 have A5 := Aside0.mk A50
 clear A50
 obtain ⟨y231, hy231⟩ : ∃ y_ : List Int, y_ = (([3, 3, 5, 0, 0, 0, 0, 0, 0] : List Int)) := ⟨_, rfl⟩
 replace H : (if (strOfNums t198).toList = (strOfNums y231).toList then (if t201 = 0 then (if t230 = true then (if t212 = 0 then (if t217 = 100 then (if t228 = 100 then ((change_Check.f 3 3 5 0 ([] : List Int) ([] : List (S39))).bind fun t234 => (if t234 = true then ((change_Check.f 9 0 0 0 ([] : List Int) ([] : List (S39))).bind fun t235 => (if t235 = true then (some false) else (some true))) else (some false))) else (some false)) else (some false)) else (some false)) else (some false)) else (some false)) else (some false)) = some true := by first | (rw [hy231]; with_reducible exact H) | (have H2_ := (Option.bind_some _ _).symm.trans H; rw [hy231]; with_reducible exact H2_) | (have H2_ := (Option.bind_some _ _).symm.trans H; with_reducible exact H2_) | with_reducible exact H | (rw [hy231]; exact H) | exact H
 have Ny231 := Aside0.mk hy231
 clear hy231
 by_cases c6 : (strOfNums t198).toList = (strOfNums y231).toList
 ·rw [if_pos c6] at H
  have c6b0 : ((strOfNums t198).toList == (strOfNums y231).toList) = true := beq_iff_eq.mpr c6
  have c6b1 : ((strOfNums t198).toList != (strOfNums y231).toList) = false := bne_eq_false_iff_eq.mpr c6
  clear c6
  by_cases c7 : t201 = 0
  ·rw [if_pos c7] at H
   have c7b0 : (t201 == 0) = true := beq_iff_eq.mpr c7
   have c7b1 : (t201 != 0) = false := bne_eq_false_iff_eq.mpr c7
   clear c7
   by_cases c8 : t230 = true
   ·subst c8
    rw [if_pos rfl] at H
    by_cases c9 : t212 = 0
    ·rw [if_pos c9] at H
     have c9b0 : (t212 == 0) = true := beq_iff_eq.mpr c9
     have c9b1 : (t212 != 0) = false := bne_eq_false_iff_eq.mpr c9
     clear c9
     by_cases c10 : t217 = 100
     ·rw [if_pos c10] at H
      have c10b0 : (t217 == 100) = true := beq_iff_eq.mpr c10
      have c10b1 : (t217 != 100) = false := bne_eq_false_iff_eq.mpr c10
      clear c10
      by_cases c11 : t228 = 100
      ·rw [if_pos c11] at H
       have c11b0 : (t228 == 100) = true := beq_iff_eq.mpr c11
       have c11b1 : (t228 != 100) = false := bne_eq_false_iff_eq.mpr c11
       clear c11
       replace H := Option.bind_eq_some_iff.mp H
       obtain ⟨t234, A120, H⟩ := H
       (try dsimp only at H)
       have A12 := Aside0.mk A120
       clear A120
       by_cases c13 : t234 = true
       ·subst c13
        rw [if_pos rfl] at H
        replace H := Option.bind_eq_some_iff.mp H
        obtain ⟨t235, A140, H⟩ := H
        (try dsimp only at H)
        have A14 := Aside0.mk A140
        clear A140
        by_cases c15 : t235 = true
        ·subst c15
         have H1 : (some false) = some true := by rw [if_pos rfl] at H <;> exact H
         exact absurd H1 (by simp)
        ·replace c15 := Bool.eq_false_iff.mpr c15
         subst c15
         rw [if_neg (show ¬ (false = true) by decide)] at H
         (have HRT := Aside0.mk (Option.some.inj H); clear H)
         go_enter Try.func9, Try.ntmps9
         go_wp2_with (first | ((with_reducible refine gate_dst (N := 1) rfl ?_); refine Cz.bx (N := 1) #[.int .i64 0, .int .i64 0, .int .i64 0, .int .i64 0, .slice none 0 0, .slice none 0 0] 26 ?_; intro gb197 hg w46 hbox hb; have BK197 := Aside0.mk (hbox); have GW197 := Aside0.mk ((Cz.gs hg : w.heap.size ≤ gb197)); have GE197 := GW197; replace HB := Cz.bs (w := w) hb; clear hb hbox hg; obtain ⟨z47_0, z47_1, z47_2, z47_3, z47_4, z47_5, y47_0, y47_1, y47_2, y47_3, y47_4, y47_5⟩ := Cz.d6 BK197) | ((with_reducible refine gate_callee (f := 11) rfl ?_); refine Cz.gL (N := (some 14)) Try.func11 #[.agg #[.int .i64 3, .int .i64 3, .int .i64 5, .int .i64 0, .slice none 0 0, .slice none 0 0]] ?_; (refine (change_Write.calls 3 3 5 0 _ _ ([] : List Int) _ _ ([] : List (S39)) t198 t201 _ ?side1 ?side2 ?side3 ?side4 A1.out).mono ?_); (case side1 => exact Kd.C_nil _ _); (case side2 => exact Nat.le_refl _); (case side3 => exact Kd.C_nil _ _); (case side4 => exact Nat.le_refl _); rintro e w48 ⟨v199, rfl, ho0, hb⟩; refine ⟨_, rfl, ?_⟩; have HO200 := Aside0.mk (Kd.R_lower ho0 (below_size (Cz.bl (w := w)))); replace BK197 := Aside0.mk (blk_below (g := gb197) (o := .cells #[.int .i64 3, .int .i64 3, .int .i64 5, .int .i64 0, .slice none 0 0, .slice none 0 0] 26 (0, 0)) (by (with_reducible repeat (first | refine blk_drewN ?_ _ | refine blk_drew ?_ | refine blk_alloc ?_ _)); apply Cz.a6; (with_reducible repeat (first | refine blk_drewN ?_ _ | refine blk_drew ?_ | refine blk_alloc ?_ _)); exact BK197.out) hb); replace HB := Cz.bs (w := w) hb; (try clear hb); (try clear ho0); obtain ⟨Ao49, co49, eo49⟩ := Kd.R_slice HO200.out; subst eo49) | ((with_reducible refine gate_callee (f := 13) rfl ?_); refine Cz.gL (N := (some 19)) Try.func13 #[.slice Ao49 t198.length co49] ?_; (with_reducible refine (change_Read.calls _ _ t198 t202 t203 t204 t205 t206 t209 t212 _ ?side1 ?side2 A2.out).mono ?_); (case side1 => repeat (first | exact (Kd.R_reads' HO200.out).2.2 | (with_reducible refine Kd.C_alloc ?_ _) | (with_reducible refine Kd.C_drewN ?_ _) | (with_reducible refine Kd.C_drew ?_))); (case side2 => exact (Kd.R_reads' HO200.out).2.1); rintro e w50 ⟨v207, v210, rfl, ho0, ho1, hb⟩; refine ⟨_, rfl, ?_⟩; have HO208 := Aside0.mk (Kd.R_lower (Kd.R_new' ho0 (Kd.R_lt (by (with_reducible repeat (first | apply Kd.R_alloc | apply Kd.R_drewN | apply Kd.R_drew)); exact HO200.out))) (below_size (Cz.bl (w := w)))); have HO211 := Aside0.mk (Kd.S_lower (Kd.S_new' ho1 (Kd.R_lt (by (with_reducible repeat (first | apply Kd.R_alloc | apply Kd.R_drewN | apply Kd.R_drew)); exact HO200.out))) (below_size (Cz.bl (w := w)))); replace HO200 := Aside0.mk (Kd.R_elder' (Cz.rq HO200) (Kd.R_base ho0) hb); replace BK197 := Cz.bk BK197 hb; replace HB := Cz.bs (w := w) hb; (try clear hb); (try clear ho0); (try clear ho1)) | ((with_reducible refine gate_dst (N := 4) rfl ?_); refine Cz.bx (N := 4) #[.int .i64 0, .int .i64 0, .int .i64 0, .int .i64 0, .slice none 0 0, .slice none 0 0] 26 ?_; intro gb213 hg w51 hbox hb; have BK213 := Aside0.mk (hbox); have GW213 := Aside0.mk ((Cz.gs hg : w.heap.size ≤ gb213)); have GE213 := GW213; have NB197_213 := Aside0.mk ((Cz.nl BK197 hg : gb197 ≠ gb213)); have NB213_197 := Aside0.mk ((Cz.nr BK197 hg : gb213 ≠ gb197)); replace HO200 := Cz.rb HO200 hb; replace HO208 := Cz.rb HO208 hb; replace HO211 := Cz.sb HO211 hb; replace BK197 := Cz.bk BK197 hb; replace HB := Cz.bs (w := w) hb; clear hb hbox hg; have hnb52 := NB213_197.out; have hnc52 := NB197_213.out; obtain ⟨z53_0, z53_1, z53_2, z53_3, z53_4, z53_5, y53_0, y53_1, y53_2, y53_3, y53_4, y53_5⟩ := Cz.d6 BK213; obtain ⟨Ao54, co54, eo54⟩ := Kd.R_slice HO208.out; subst eo54; obtain ⟨Ao55, co55, eo55⟩ := Kd.S_slice HO211.out; subst eo55) | ((with_reducible refine gate_callee (f := 11) rfl ?_); refine Cz.gL (N := (some 24)) Try.func11 #[.agg #[.int .i64 0, .int .i64 0, .int .i64 0, .int .i64 0, .slice none 0 0, .slice none 0 0]] ?_; (refine (change_Write.calls 0 0 0 0 _ _ ([] : List Int) _ _ ([] : List (S39)) t214 t217 _ ?side1 ?side2 ?side3 ?side4 A3.out).mono ?_); (case side1 => exact Kd.C_nil _ _); (case side2 => exact Nat.le_refl _); (case side3 => exact Kd.C_nil _ _); (case side4 => exact Nat.le_refl _); rintro e w56 ⟨v215, rfl, ho0, hb⟩; refine ⟨_, rfl, ?_⟩; have HO216 := Aside0.mk (Kd.R_lower (Kd.R_new' (Kd.R_new' ho0 (Kd.R_lt (by (with_reducible repeat (first | apply Kd.R_alloc | apply Kd.R_drewN | apply Kd.R_drew)); exact (Kd.R_mono (Cz.rf (Cz.rf (Cz.rf (Cz.rf (Cz.rf (Cz.rf (Kd.R_types HO200.out BK213.out (by decide)))))))) (fun _ h_ => h_.1))))) (Kd.R_lt (by (with_reducible repeat (first | apply Kd.R_alloc | apply Kd.R_drewN | apply Kd.R_drew)); exact (Kd.R_mono (Cz.rf (Cz.rf (Cz.rf (Cz.rf (Cz.rf (Cz.rf (Kd.R_types HO208.out BK213.out (by decide)))))))) (fun _ h_ => h_.1))))) (below_size (Cz.bl (w := w)))); replace HO200 := Aside0.mk (Kd.R_elder' (by (with_reducible repeat (first | apply Kd.R_alloc | apply Kd.R_drewN | apply Kd.R_drew)); exact (Kd.R_mono (Cz.rf (Cz.rf (Cz.rf (Cz.rf (Cz.rf (Cz.rf (Kd.R_types HO200.out BK213.out (by decide)))))))) (fun _ h_ => h_.1))) (Kd.R_base ho0) hb); replace HO208 := Aside0.mk (Kd.R_elder' (by (with_reducible repeat (first | apply Kd.R_alloc | apply Kd.R_drewN | apply Kd.R_drew)); exact (Kd.R_mono (Cz.rf (Cz.rf (Cz.rf (Cz.rf (Cz.rf (Cz.rf (Kd.R_types HO208.out BK213.out (by decide)))))))) (fun _ h_ => h_.1))) (Kd.R_base ho0) hb); replace HO211 := Aside0.mk (Kd.S_elder' (by (with_reducible repeat (first | apply Kd.S_alloc | apply Kd.S_drewN | apply Kd.S_drew)); exact (Kd.S_mono (Cz.sf (Cz.sf (Cz.sf (Cz.sf (Cz.sf (Cz.sf (Kd.S_types HO211.out BK213.out (by decide)))))))) (fun _ h_ => h_.1))) (Kd.R_base ho0) hb); replace BK197 := Aside0.mk (blk_below (g := gb197) (o := .cells #[.int .i64 3, .int .i64 3, .int .i64 5, .int .i64 0, .slice none 0 0, .slice none 0 0] 26 (0, 0)) (by (with_reducible repeat (first | refine blk_drewN ?_ _ | refine blk_drew ?_ | refine blk_alloc ?_ _)); refine blk_far ?_ NB197_213.out _; refine blk_far ?_ NB197_213.out _; refine blk_far ?_ NB197_213.out _; refine blk_far ?_ NB197_213.out _; refine blk_far ?_ NB197_213.out _; refine blk_far ?_ NB197_213.out _; (with_reducible repeat (first | refine blk_drewN ?_ _ | refine blk_drew ?_ | refine blk_alloc ?_ _)); exact BK197.out) hb); replace BK213 := Aside0.mk (blk_below (g := gb213) (o := .cells #[.int .i64 t202, .int .i64 t203, .int .i64 t204, .int .i64 t205, .slice Ao54 t206.length co54, .slice Ao55 t209.length co55] 26 (0, 0)) (by (with_reducible repeat (first | refine blk_drewN ?_ _ | refine blk_drew ?_ | refine blk_alloc ?_ _)); apply Cz.a6; (with_reducible repeat (first | refine blk_drewN ?_ _ | refine blk_drew ?_ | refine blk_alloc ?_ _)); exact BK213.out) hb); replace HB := Cz.bs (w := w) hb; (try clear hb); (try clear hk); (try clear ho0)) | ((with_reducible refine gate_callee (f := 13) rfl ?_); refine Cz.gL (N := (some 28)) Try.func13 #[.slice none 0 0] ?_; (refine (change_Read.calls _ _ ([] : List Int) t218 t219 t220 t221 t222 t225 t228 _ ?side1 ?side2 A4.out).mono ?_); (case side1 => exact Kd.C_nil _ _); (case side2 => exact Nat.le_refl _); rintro e w57 ⟨v223, v226, rfl, ho0, ho1, hb⟩; refine ⟨_, rfl, ?_⟩; have HO224 := Aside0.mk (Kd.R_lower (Kd.R_new' (Kd.R_new' (Kd.R_new' ho0 (Kd.R_lt (by (with_reducible repeat (first | apply Kd.R_alloc | apply Kd.R_drewN | apply Kd.R_drew)); exact HO200.out))) (Kd.R_lt (by (with_reducible repeat (first | apply Kd.R_alloc | apply Kd.R_drewN | apply Kd.R_drew)); exact HO208.out))) (Kd.R_lt (by (with_reducible repeat (first | apply Kd.R_alloc | apply Kd.R_drewN | apply Kd.R_drew)); exact HO216.out))) (below_size (Cz.bl (w := w)))); have HO227 := Aside0.mk (Kd.S_lower (Kd.S_new' (Kd.S_new' (Kd.S_new' (Kd.S_new' ho1 (Kd.R_lt (by (with_reducible repeat (first | apply Kd.R_alloc | apply Kd.R_drewN | apply Kd.R_drew)); exact HO200.out))) (Kd.R_lt (by (with_reducible repeat (first | apply Kd.R_alloc | apply Kd.R_drewN | apply Kd.R_drew)); exact HO208.out))) (Kd.S_lt (by (with_reducible repeat (first | apply Kd.S_alloc | apply Kd.S_drewN | apply Kd.S_drew)); exact HO211.out))) (Kd.R_lt (by (with_reducible repeat (first | apply Kd.R_alloc | apply Kd.R_drewN | apply Kd.R_drew)); exact HO216.out))) (below_size (Cz.bl (w := w)))); replace HO200 := Aside0.mk (Kd.R_elder' (Cz.rq HO200) (Kd.R_base ho0) hb); replace HO208 := Aside0.mk (Kd.R_elder' (Cz.rq HO208) (Kd.R_base ho0) hb); replace HO211 := Aside0.mk (Kd.S_mono (Kd.S_told (Kd.S_told (Kd.S_old (by (with_reducible repeat (first | apply Kd.S_alloc | apply Kd.S_drewN | apply Kd.S_drew)); exact HO211.out) hb) (Kd.R_base ho0)) (Kd.S_base ho1)) (fun _ h_ => h_.1)); replace HO216 := Aside0.mk (Kd.R_elder' (Cz.rq HO216) (Kd.R_base ho0) hb); replace BK197 := Cz.bk BK197 hb; replace BK213 := Cz.bk BK213 hb; replace HB := Cz.bs (w := w) hb; (try clear hb); (try clear ho0); (try clear ho1)) | ((with_reducible refine gate_dst (N := 8) rfl ?_); refine Cz.bx (N := 8) #[.int .i64 0, .int .i64 0, .int .i64 0, .int .i64 0, .slice none 0 0, .slice none 0 0] 26 ?_; intro gb229 hg w58 hbox hb; have BK229 := Aside0.mk (hbox); have GW229 := Aside0.mk ((Cz.gs hg : w.heap.size ≤ gb229)); have GE229 := GW229; have NB197_229 := Aside0.mk ((Cz.nl BK197 hg : gb197 ≠ gb229)); have NB229_197 := Aside0.mk ((Cz.nr BK197 hg : gb229 ≠ gb197)); have NB213_229 := Aside0.mk ((Cz.nl BK213 hg : gb213 ≠ gb229)); have NB229_213 := Aside0.mk ((Cz.nr BK213 hg : gb229 ≠ gb213)); replace HO200 := Cz.rb HO200 hb; replace HO208 := Cz.rb HO208 hb; replace HO211 := Cz.sb HO211 hb; replace HO216 := Cz.rb HO216 hb; replace HO224 := Cz.rb HO224 hb; replace HO227 := Cz.sb HO227 hb; replace BK197 := Cz.bk BK197 hb; replace BK213 := Cz.bk BK213 hb; replace HB := Cz.bs (w := w) hb; clear hb hbox hg; have hnb59 := NB229_197.out; have hnc59 := NB197_229.out; have hnb60 := NB229_213.out; have hnc60 := NB213_229.out; obtain ⟨z61_0, z61_1, z61_2, z61_3, z61_4, z61_5, y61_0, y61_1, y61_2, y61_3, y61_4, y61_5⟩ := Cz.d6 BK229; obtain ⟨Ao62, co62, eo62⟩ := Kd.R_slice HO224.out; subst eo62; obtain ⟨Ao63, co63, eo63⟩ := Kd.S_slice HO227.out; subst eo63; obtain ⟨z64_0, z64_1, z64_2, z64_3, z64_4, z64_5, y64_0, y64_1, y64_2, y64_3, y64_4, y64_5⟩ := Cz.d6 BK197; obtain ⟨z65_0, z65_1, z65_2, z65_3, z65_4, z65_5, y65_0, y65_1, y65_2, y65_3, y65_4, y65_5⟩ := Cz.d6 BK213) | ((with_reducible refine gate_callee (f := 15) rfl ?_); refine Cz.gL (N := (some 33)) Try.func15 #[.agg #[.int .i64 3, .int .i64 3, .int .i64 5, .int .i64 0, .slice none 0 0, .slice none 0 0], .agg #[.int .i64 t202, .int .i64 t203, .int .i64 t204, .int .i64 t205, .slice Ao54 t206.length co54, .slice Ao55 t209.length co55]] ?_; (refine (waggonerref10_Same.calls 3 3 5 0 _ _ ([] : List Int) _ _ ([] : List (S39)) t202 t203 t204 t205 _ _ t206 _ _ t209 true _ ?side1 ?side2 ?side3 ?side4 ?side5 ?side6 ?side7 ?side8 A5.out).mono ?_); (case side1 => exact Kd.C_nil _ _); (case side2 => exact Nat.le_refl _); (case side3 => exact Kd.C_nil _ _); (case side4 => exact Nat.le_refl _); (case side5 => refine (Kd.R_reads' (e := 5) (base := w.heap.size) (ok := fun k_ => (((True ∧ some k_ ≠ (.slice Ao49 t198.length co49 : Value).ownBlock) ∧ some k_ ≠ (v215 : Value).ownBlock) ∧ some k_ ≠ (.slice Ao62 t222.length co62 : Value).ownBlock)) (n := t206.length) (c := co54) ?_).2.2; exact (by (with_reducible repeat (first | apply Kd.R_alloc | apply Kd.R_drewN | apply Kd.R_drew)); exact (Kd.R_mono (Cz.rf (Cz.rf (Cz.rf (Cz.rf (Cz.rf (Cz.rf (Kd.R_types HO208.out BK229.out (by decide)))))))) (fun _ h_ => h_.1)))); (case side6 => exact (Kd.R_reads' HO208.out).2.1); (case side7 => refine (Kd.S_reads' (e := 39) (base := w.heap.size) (ok := fun k_ => ((((some k_ ≠ (.slice Ao54 t206.length co54 : Value).ownBlock ∧ some k_ ≠ (.slice Ao49 t198.length co49 : Value).ownBlock) ∧ some k_ ≠ (v215 : Value).ownBlock) ∧ some k_ ≠ (.slice Ao62 t222.length co62 : Value).ownBlock) ∧ some k_ ≠ (.slice Ao63 t225.length co63 : Value).ownBlock)) (n := t209.length) (c := co55) ?_).2.2; exact (by (with_reducible repeat (first | apply Kd.S_alloc | apply Kd.S_drewN | apply Kd.S_drew)); exact (Kd.S_mono (Cz.sf (Cz.sf (Cz.sf (Cz.sf (Cz.sf (Cz.sf (Kd.S_types HO211.out BK229.out (by decide)))))))) (fun _ h_ => h_.1)))); (case side8 => exact (Kd.S_reads' HO211.out).2.1); rintro e w66 ⟨rfl, hb⟩; refine ⟨_, rfl, ?_⟩; replace HO200 := Aside0.mk (Kd.R_below (by (with_reducible repeat (first | apply Kd.R_alloc | apply Kd.R_drewN | apply Kd.R_drew)); exact (Kd.R_mono (Cz.rf (Cz.rf (Cz.rf (Cz.rf (Cz.rf (Cz.rf (Kd.R_types HO200.out BK229.out (by decide)))))))) (fun _ h_ => h_.1))) hb); replace HO208 := Aside0.mk (Kd.R_below (by (with_reducible repeat (first | apply Kd.R_alloc | apply Kd.R_drewN | apply Kd.R_drew)); exact (Kd.R_mono (Cz.rf (Cz.rf (Cz.rf (Cz.rf (Cz.rf (Cz.rf (Kd.R_types HO208.out BK229.out (by decide)))))))) (fun _ h_ => h_.1))) hb); replace HO211 := Aside0.mk (Kd.S_below (by (with_reducible repeat (first | apply Kd.S_alloc | apply Kd.S_drewN | apply Kd.S_drew)); exact (Kd.S_mono (Cz.sf (Cz.sf (Cz.sf (Cz.sf (Cz.sf (Cz.sf (Kd.S_types HO211.out BK229.out (by decide)))))))) (fun _ h_ => h_.1))) hb); replace HO216 := Aside0.mk (Kd.R_below (by (with_reducible repeat (first | apply Kd.R_alloc | apply Kd.R_drewN | apply Kd.R_drew)); exact (Kd.R_mono (Cz.rf (Cz.rf (Cz.rf (Cz.rf (Cz.rf (Cz.rf (Kd.R_types HO216.out BK229.out (by decide)))))))) (fun _ h_ => h_.1))) hb); replace HO224 := Aside0.mk (Kd.R_below (by (with_reducible repeat (first | apply Kd.R_alloc | apply Kd.R_drewN | apply Kd.R_drew)); exact (Kd.R_mono (Cz.rf (Cz.rf (Cz.rf (Cz.rf (Cz.rf (Cz.rf (Kd.R_types HO224.out BK229.out (by decide)))))))) (fun _ h_ => h_.1))) hb); replace HO227 := Aside0.mk (Kd.S_below (by (with_reducible repeat (first | apply Kd.S_alloc | apply Kd.S_drewN | apply Kd.S_drew)); exact (Kd.S_mono (Cz.sf (Cz.sf (Cz.sf (Cz.sf (Cz.sf (Cz.sf (Kd.S_types HO227.out BK229.out (by decide)))))))) (fun _ h_ => h_.1))) hb); replace BK197 := Aside0.mk (blk_below (g := gb197) (o := .cells #[.int .i64 3, .int .i64 3, .int .i64 5, .int .i64 0, .slice none 0 0, .slice none 0 0] 26 (0, 0)) (by (with_reducible repeat (first | refine blk_drewN ?_ _ | refine blk_drew ?_ | refine blk_alloc ?_ _)); refine blk_far ?_ NB197_229.out _; refine blk_far ?_ NB197_229.out _; refine blk_far ?_ NB197_229.out _; refine blk_far ?_ NB197_229.out _; refine blk_far ?_ NB197_229.out _; refine blk_far ?_ NB197_229.out _; (with_reducible repeat (first | refine blk_drewN ?_ _ | refine blk_drew ?_ | refine blk_alloc ?_ _)); exact BK197.out) hb); replace BK213 := Aside0.mk (blk_below (g := gb213) (o := .cells #[.int .i64 t202, .int .i64 t203, .int .i64 t204, .int .i64 t205, .slice Ao54 t206.length co54, .slice Ao55 t209.length co55] 26 (0, 0)) (by (with_reducible repeat (first | refine blk_drewN ?_ _ | refine blk_drew ?_ | refine blk_alloc ?_ _)); refine blk_far ?_ NB213_229.out _; refine blk_far ?_ NB213_229.out _; refine blk_far ?_ NB213_229.out _; refine blk_far ?_ NB213_229.out _; refine blk_far ?_ NB213_229.out _; refine blk_far ?_ NB213_229.out _; (with_reducible repeat (first | refine blk_drewN ?_ _ | refine blk_drew ?_ | refine blk_alloc ?_ _)); exact BK213.out) hb); replace BK229 := Aside0.mk (blk_below (g := gb229) (o := .cells #[.int .i64 t218, .int .i64 t219, .int .i64 t220, .int .i64 t221, .slice Ao62 t222.length co62, .slice Ao63 t225.length co63] 26 (0, 0)) (by (with_reducible repeat (first | refine blk_drewN ?_ _ | refine blk_drew ?_ | refine blk_alloc ?_ _)); apply Cz.a6; (with_reducible repeat (first | refine blk_drewN ?_ _ | refine blk_drew ?_ | refine blk_alloc ?_ _)); exact BK229.out) hb); replace HB := Cz.bs (w := w) hb; (try clear hb); (try clear hk); have hcv67 := own_string (P := Try.prog) Try.underlying23 Try.underlying5 Try.underlying9 (Kd.own_of_R HO200.out); (try have hcvd68 := fun (n_ : Nat) => own_string (P := Try.prog) Try.underlying23 Try.underlying5 Try.underlying9 (Kd.own_of_R (Kd.R_drewN HO200.out n_)))) | ((with_reducible refine gate_dst (N := 36) rfl ?_); refine Kd.R_lit (Kd.int .u8) _ 5 ?hg (N := 36) ?hd (xs := ([3, 3, 5, 0, 0, 0, 0, 0, 0] : List Int)) (inner := [.int .u8 3, .int .u8 3, .int .u8 5, .int .u8 0, .int .u8 0, .int .u8 0, .int .u8 0, .int .u8 0, .int .u8 0]) (ok := fun _ => True) (okp := fun _ => True) ?hr ?hp (fun _ hk => hk) trivial (Below.refl _ _) (Nat.le_refl _) (by simp) ?_; (case hd => rfl); (case hg => rfl); (case hr => first | (go_simp; done) | (go_simp; rfl)); (case hp => exact (Reps.one (show Kd.M (Kd.int .u8) _ _ _ 3 [.int .u8 3] from rfl) (Reps.one (show Kd.M (Kd.int .u8) _ _ _ 3 [.int .u8 3] from rfl) (Reps.one (show Kd.M (Kd.int .u8) _ _ _ 5 [.int .u8 5] from rfl) (Reps.one (show Kd.M (Kd.int .u8) _ _ _ 0 [.int .u8 0] from rfl) (Reps.one (show Kd.M (Kd.int .u8) _ _ _ 0 [.int .u8 0] from rfl) (Reps.one (show Kd.M (Kd.int .u8) _ _ _ 0 [.int .u8 0] from rfl) (Reps.one (show Kd.M (Kd.int .u8) _ _ _ 0 [.int .u8 0] from rfl) (Reps.one (show Kd.M (Kd.int .u8) _ _ _ 0 [.int .u8 0] from rfl) (Reps.one (show Kd.M (Kd.int .u8) _ _ _ 0 [.int .u8 0] from rfl) (Reps.none _ _))))))))))); intro v232 w69 ho70 hb hg_ hnew_; clear hg_ hnew_; (first | rw [← Ny231.out] at ho70 | (simp only [Int.reduceToNat] at ho70; rw [← Ny231.out] at ho70)); have HO233 := Aside0.mk (Kd.R_lower (Kd.R_new' (Kd.R_new' (Kd.R_new' (Kd.R_new' ho70 (Kd.R_lt (by (with_reducible repeat (first | apply Kd.R_alloc | apply Kd.R_drewN | apply Kd.R_drew)); exact HO200.out))) (Kd.R_lt (by (with_reducible repeat (first | apply Kd.R_alloc | apply Kd.R_drewN | apply Kd.R_drew)); exact HO208.out))) (Kd.R_lt (by (with_reducible repeat (first | apply Kd.R_alloc | apply Kd.R_drewN | apply Kd.R_drew)); exact HO216.out))) (Kd.R_lt (by (with_reducible repeat (first | apply Kd.R_alloc | apply Kd.R_drewN | apply Kd.R_drew)); exact HO224.out))) (below_size (Cz.bl (w := w)))); replace HO200 := Aside0.mk (Kd.R_elder' (Cz.rq HO200) (Kd.R_base ho70) hb); replace HO208 := Aside0.mk (Kd.R_elder' (Cz.rq HO208) (Kd.R_base ho70) hb); replace HO211 := Aside0.mk (Kd.S_elder' (by (with_reducible repeat (first | apply Kd.S_alloc | apply Kd.S_drewN | apply Kd.S_drew)); exact HO211.out) (Kd.R_base ho70) hb); replace HO216 := Aside0.mk (Kd.R_elder' (Cz.rq HO216) (Kd.R_base ho70) hb); replace HO224 := Aside0.mk (Kd.R_elder' (Cz.rq HO224) (Kd.R_base ho70) hb); replace HO227 := Aside0.mk (Kd.S_elder' (by (with_reducible repeat (first | apply Kd.S_alloc | apply Kd.S_drewN | apply Kd.S_drew)); exact HO227.out) (Kd.R_base ho70) hb); replace BK197 := Cz.bk BK197 hb; replace BK213 := Cz.bk BK213 hb; replace BK229 := Cz.bk BK229 hb; replace HB := Cz.bs (w := w) hb; clear hb ho70; have hcv71 := own_string (P := Try.prog) Try.underlying23 Try.underlying5 Try.underlying9 (Kd.own_of_R HO233.out); (try have hcvd72 := fun (n_ : Nat) => own_string (P := Try.prog) Try.underlying23 Try.underlying5 Try.underlying9 (Kd.own_of_R (Kd.R_drewN HO233.out n_))); obtain ⟨z73_0, z73_1, z73_2, z73_3, z73_4, z73_5, y73_0, y73_1, y73_2, y73_3, y73_4, y73_5⟩ := Cz.d6 BK197) | (go_at_call 16; (with_reducible show Calls _ _ #[.agg #[.int .i64 3, .int .i64 3, .int .i64 5, .int .i64 0, _, _]] _ _); (refine (change_Check.calls 3 3 5 0 _ _ ([] : List Int) _ _ ([] : List (S39)) true _ ?side1 ?side2 ?side3 ?side4 A12.out).mono ?_); (case side1 => exact Kd.C_nil _ _); (case side2 => exact Nat.le_refl _); (case side3 => exact Kd.C_nil _ _); (case side4 => exact Nat.le_refl _); rintro e w74 ⟨rfl, hb⟩; replace HO200 := Cz.rb HO200 hb; replace HO208 := Cz.rb HO208 hb; replace HO211 := Cz.sb HO211 hb; replace HO216 := Cz.rb HO216 hb; replace HO224 := Cz.rb HO224 hb; replace HO227 := Cz.sb HO227 hb; replace HO233 := Cz.rb HO233 hb; replace BK197 := Cz.bk BK197 hb; replace BK213 := Cz.bk BK213 hb; replace BK229 := Cz.bk BK229 hb; replace HB := Cz.bs (w := w) hb; (try clear hb)) | (go_at_call 16; (with_reducible show Calls _ _ #[.agg #[.int .i64 9, .int .i64 0, .int .i64 0, .int .i64 0, _, _]] _ _); (refine (change_Check.calls 9 0 0 0 _ _ ([] : List Int) _ _ ([] : List (S39)) false _ ?side1 ?side2 ?side3 ?side4 A14.out).mono ?_); (case side1 => exact Kd.C_nil _ _); (case side2 => exact Nat.le_refl _); (case side3 => exact Kd.C_nil _ _); (case side4 => exact Nat.le_refl _); rintro e w75 ⟨rfl, hb⟩; replace HO200 := Cz.rb HO200 hb; replace HO208 := Cz.rb HO208 hb; replace HO211 := Cz.sb HO211 hb; replace HO216 := Cz.rb HO216 hb; replace HO224 := Cz.rb HO224 hb; replace HO227 := Cz.sb HO227 hb; replace HO233 := Cz.rb HO233 hb; replace BK197 := Cz.bk BK197 hb; replace BK213 := Cz.bk BK213 hb; replace BK229 := Cz.bk BK229 hb; replace HB := Cz.bs (w := w) hb; (try clear hb)))
         go_ret
         exact ⟨by first | rfl | (exact congrArg (fun z_ => Ending.returned (Value.bool z_)) HRT.out) | (rw [HRT.out]; done) | (simp [errW_none, errW_some] <;> rfl) | (simp [*, errW_none, errW_some] <;> rfl), Cz.bl (w := w)⟩
       ·replace c13 := Bool.eq_false_iff.mpr c13
        subst c13
        have H1 : (some false) = some true := by rw [if_neg (show ¬ (false = true) by decide)] at H <;> exact H
        exact absurd H1 (by simp)
      ·rw [if_neg c11] at H
       first | exact absurd H (by simp; done) | skip
     ·rw [if_neg c10] at H
      first | exact absurd H (by simp; done) | skip
    ·rw [if_neg c9] at H
     first | exact absurd H (by simp; done) | skip
   ·replace c8 := Bool.eq_false_iff.mpr c8
    subst c8
    have H1 : (some false) = some true := by rw [if_neg (show ¬ (false = true) by decide)] at H <;> exact H
    exact absurd H1 (by simp)
  ·rw [if_neg c7] at H
   first | exact absurd H (by simp; done) | skip
 ·rw [if_neg c6] at H
  first | exact absurd H (by simp; done) | skip
def waggonerlaw10_awake.f : Option Bool := some true
theorem waggonerlaw10_awake.tells : waggonerlaw10_awake_p.f = some true := by kernel_rfl
theorem waggonerlaw10_awake.calls (r : Bool) (w : World) (h : waggonerlaw10_awake.f = some r) :
  Calls Try.prog 9 #[] w fun e w' => e = .returned (.bool r) ∧ Below w.heap.size w w' := by
 unfold waggonerlaw10_awake.f at h
 obtain rfl := Option.some.inj h
 exact waggonerlaw10_awake_p.calls true rfl w waggonerlaw10_awake.tells
def waggonerlaw07_Few_p.l0 : Nat → List (S39) → Int → Option (Bool)
 | 0, _, _ => none
 | k + 1, x0, x3 => if x3 < (x0.length : Int) then (if 0 ≤ x3 then (if (((rd_T39 x0 x3).f4).length : Int) > 3000 then (some false) else (waggonerlaw07_Few_p.l0 k x0 (wrap64 (x3 + 1)))) else (none)) else (some true)
def waggonerlaw07_Few_p.f (k : Nat) (l0 : List (S39)) : Option (Bool) := if (l0.length : Int) > 70 then (some false) else (waggonerlaw07_Few_p.l0 k l0 0)
set_option maxHeartbeats 8000000 in
set_option maxRecDepth 100000 in
theorem waggonerlaw07_Few_p.calls (k : Nat) (A0 : Option Addr) (c0 : Nat) (l0 : List (S39)) (r : Bool) (w : World) (hr0 : Kd.C k39 w A0 l0.length l0) (hc0 : l0.length ≤ c0) (h : waggonerlaw07_Few_p.f k l0 = some r) :
  Calls Try.prog 19 #[.slice A0 l0.length c0] w fun e w' => e = .returned (.bool r) ∧ Drawn0 w w' := by
 have HR0 := Aside0.mk hr0
 have HC0 := Aside0.mk hc0
 clear hr0 hc0
 have H : (if (l0.length : Int) > 70 then (some false) else (waggonerlaw07_Few_p.l0 k l0 0)) = some r := h
 clear h
 by_cases c2 : (l0.length : Int) > 70
 ·rw [if_pos c2] at H
  have c2b0 : decide (70 < (l0.length : Int)) = true := decide_eq_true c2
  have c2b1 : decide (70 < l0.length) = true := decide_eq_true (by omega)
  clear c2
  obtain rfl := Option.some.inj H
  go_enter Try.func19, Try.ntmps19
  go_wp2
  go_ret
  exact ⟨by first | rfl | (simp; done) | (simp [*]; done), by repeat (first | exact Drawn0.refl _ | apply Drawn0.step)⟩
 ·rw [if_neg c2] at H
  have c2b0 : decide (70 < (l0.length : Int)) = false := decide_eq_false c2
  have c2b1 : decide (70 < l0.length) = false := decide_eq_false (by omega)
  clear c2
  have H' := Aside0.mk H
  clear H
  go_enter Try.func19, Try.ntmps19
  go_wp2
  go_loopg [3] k (fun kq v3 w' => ∃ (x3_1 : Int), v3 = .int .i64 x3_1 ∧ Aside0 (waggonerlaw07_Few_p.l0 kq l0 x3_1 = some r) ∧ Aside0 (kq ≤ k) ∧ Drawn0 w w')
  case atStart => exact ⟨(0), Cz.si, H', ⟨Nat.le_refl _⟩, by repeat (first | exact Drawn0.refl _ | apply Drawn0.step)⟩
  case round =>
   clear H'
   try clear c1
   try clear c2
   try clear c2b0
   try clear c2b1
   try clear p2
   obtain ⟨x3_1, rfl, HA, HK1, ⟨m1, rfl⟩⟩ := hrel
   cases gk with
   | zero => exact absurd HA.out (by simp [waggonerlaw07_Few_p.l0])
   | succ k1 =>
    have H := HA.out
    clear HA
    simp only [waggonerlaw07_Few_p.l0] at H
    by_cases c3 : x3_1 < (l0.length : Int)
    ·rw [if_pos c3] at H
     have c3b0 : decide (x3_1 < (l0.length : Int)) = true := decide_eq_true c3
     clear c3
     by_cases c4 : 0 ≤ x3_1
     ·rw [if_pos c4] at H
      have c4b0 : decide (0 ≤ x3_1) = true := decide_eq_true c4
      clear c4
      by_cases c5 : (((rd_T39 l0 x3_1).f4).length : Int) > 3000
      ·rw [if_pos c5] at H
       have c5b0 : decide (3000 < (((rd_T39 l0 x3_1).f4).length : Int)) = true := decide_eq_true c5
       have c5b1 : decide (3000 < ((rd_T39 l0 x3_1).f4).length) = true := decide_eq_true (by omega)
       clear c5
       obtain rfl := Option.some.inj H
       have p236 : 0 ≤ (x3_1 : Int) := of_decide_eq_true (by first | (with_reducible assumption) | assumption)
       have q236 : x3_1 < (l0.length : Int) := of_decide_eq_true (by first | (with_reducible assumption) | assumption)
       obtain ⟨ad236, A236_4, c236_4, e236, hx236_0, hx236_1, hx236_2, hx236_3, hx236_4, hl236_4, hi236_4⟩ := at_T39 HR0.out x3_1 p236 q236
       cases e236
       have HR236_4 := Aside0.mk hi236_4
       have HC236_4 := Aside0.mk hl236_4
       clear hi236_4 hl236_4
       replace p236 := eq_true p236
       replace q236 := eq_true q236
       go_wp2
       go_ret
       exact ⟨by first | rfl | (simp; done) | (simp [*]; done), by repeat (first | exact Drawn0.refl _ | apply Drawn0.step)⟩
      ·rw [if_neg c5] at H
       have c5b0 : decide (3000 < (((rd_T39 l0 x3_1).f4).length : Int)) = false := decide_eq_false c5
       have c5b1 : decide (3000 < ((rd_T39 l0 x3_1).f4).length) = false := decide_eq_false (by omega)
       clear c5
       have H' := Aside0.mk H
       clear H
       have p236 : 0 ≤ (x3_1 : Int) := of_decide_eq_true (by first | (with_reducible assumption) | assumption)
       have q236 : x3_1 < (l0.length : Int) := of_decide_eq_true (by first | (with_reducible assumption) | assumption)
       obtain ⟨ad236, A236_4, c236_4, e236, hx236_0, hx236_1, hx236_2, hx236_3, hx236_4, hl236_4, hi236_4⟩ := at_T39 HR0.out x3_1 p236 q236
       cases e236
       have HR236_4 := Aside0.mk hi236_4
       have HC236_4 := Aside0.mk hl236_4
       clear hi236_4 hl236_4
       replace p236 := eq_true p236
       replace q236 := eq_true q236
       go_wp2
       go_roundg k1
       case measure => have := HK1.out; omega
       case rel => exact ⟨(wrap64 (x3_1 + 1)), Cz.si, H', ⟨by have := HK1.out; omega⟩, by repeat (first | exact Drawn0.refl _ | apply Drawn0.step)⟩
     ·rw [if_neg c4] at H
      exact absurd H (by simp)
    ·rw [if_neg c3] at H
     have c3b0 : decide (x3_1 < (l0.length : Int)) = false := decide_eq_false c3
     clear c3
     obtain rfl := Option.some.inj H
     go_wp2
     go_ret
     exact ⟨by first | rfl | (simp; done) | (simp [*]; done), by repeat (first | exact Drawn0.refl _ | apply Drawn0.step)⟩
def waggonerlaw07_Few.f (l0 : List S39) : Option Bool := some (decide (l0.length ≤ 70) && l0.all fun s => decide (s.f4.length ≤ 3000))
theorem waggonerlaw07_Few.loop {l0 : List S39} (h2 : l0.length ≤ 70) : ∀ (d k i : Nat), l0.length - i = d → i ≤ l0.length → d < k → waggonerlaw07_Few_p.l0 k l0 (i : Int) = some ((l0.drop i).all fun s => decide (s.f4.length ≤ 3000))
 | 0, k, i, hd, hi, hk => by
  obtain ⟨k, rfl⟩ : ∃ m, k = m + 1 := ⟨k - 1, by omega⟩
  rw [waggonerlaw07_Few_p.l0, if_neg (by omega), List.drop_of_length_le (by omega)]
  rfl
 | d + 1, k, i, hd, hi, hk => by
  obtain ⟨k, rfl⟩ : ∃ m, k = m + 1 := ⟨k - 1, by omega⟩
  have hi0 : i < l0.length := by omega
  rw [waggonerlaw07_Few_p.l0, if_pos (by omega), if_pos (by omega), rd_getE l0 i hi0, List.drop_eq_getElem_cons hi0, List.all_cons]
  by_cases he : l0[i].f4.length ≤ 3000
  ·rw [if_neg (by omega), show wrap64 ((i : Int) + 1) = ((i + 1 : Nat) : Int) by unfold wrap64; omega, waggonerlaw07_Few.loop h2 d k (i + 1) (by omega) (by omega) (by omega), decide_eq_true he]
   rfl
  ·rw [if_pos (by omega), decide_eq_false he]
   rfl
theorem waggonerlaw07_Few.closes {l0 : List S39} {r : Bool} (h : waggonerlaw07_Few.f l0 = some r) : waggonerlaw07_Few_p.f (l0.length + 1) l0 = some r := by
 rw [← h]
 unfold waggonerlaw07_Few_p.f waggonerlaw07_Few.f
 by_cases hl : l0.length ≤ 70
 ·rw [if_neg (by omega), decide_eq_true hl]
  exact waggonerlaw07_Few.loop hl l0.length _ 0 (by omega) (by omega) (by omega)
 ·rw [if_pos (by omega), decide_eq_false hl]
  rfl
theorem waggonerlaw07_Few.calls (A0 : Option Addr) (c0 : Nat) (l0 : List (S39)) (r : Bool) (w : World) (hr0 : Kd.C k39 w A0 l0.length l0) (hc0 : l0.length ≤ c0) (h : waggonerlaw07_Few.f l0 = some r) :
  Calls Try.prog 19 #[.slice A0 l0.length c0] w fun e w' => e = .returned (.bool r) ∧ Drawn0 w w' :=
 waggonerlaw07_Few_p.calls (l0.length + 1) A0 c0 l0 r w hr0 hc0 (waggonerlaw07_Few.closes h)
def waggonerlaw10_Few.f (a0_0 : Int) (a0_1 : Int) (a0_2 : Int) (a0_3 : Int) (l0_4 : List Int) (l0_5 : List (S39)) : Option (Bool) := if (l0_4.length : Int) ≤ 5000 then ((waggonerlaw07_Few.f l0_5).bind fun t238 => (some t238)) else (some false)
set_option maxHeartbeats 8000000 in
set_option maxRecDepth 100000 in
theorem waggonerlaw10_Few.calls (a0_0 : Int) (a0_1 : Int) (a0_2 : Int) (a0_3 : Int) (A0_4 : Option Addr) (c0_4 : Nat) (l0_4 : List Int) (A0_5 : Option Addr) (c0_5 : Nat) (l0_5 : List (S39)) (r : Bool) (w : World) (hr0_4 : Kd.C (Kd.int .u8) w A0_4 l0_4.length l0_4) (hc0_4 : l0_4.length ≤ c0_4) (hr0_5 : Kd.C k39 w A0_5 l0_5.length l0_5) (hc0_5 : l0_5.length ≤ c0_5) (h : waggonerlaw10_Few.f a0_0 a0_1 a0_2 a0_3 l0_4 l0_5 = some r) :
  Calls Try.prog 10 #[.agg #[.int .i64 a0_0, .int .i64 a0_1, .int .i64 a0_2, .int .i64 a0_3, .slice A0_4 l0_4.length c0_4, .slice A0_5 l0_5.length c0_5]] w fun e w' => e = .returned (.bool r) ∧ Below w.heap.size w w' := by
 have hu26 := Try.underlying26
 have HR0_4 := Aside0.mk hr0_4
 have HC0_4 := Aside0.mk hc0_4
 clear hr0_4 hc0_4
 have HR0_5 := Aside0.mk hr0_5
 have HC0_5 := Aside0.mk hc0_5
 clear hr0_5 hc0_5
 have HB := Aside0.mk (Below.refl w.heap.size w)
 have H : (if (l0_4.length : Int) ≤ 5000 then ((waggonerlaw07_Few.f l0_5).bind fun t238 => (some t238)) else (some false)) = some r := h
 clear h
 by_cases c2 : (l0_4.length : Int) ≤ 5000
 ·rw [if_pos c2] at H
  have c2b0 : decide ((l0_4.length : Int) ≤ 5000) = true := decide_eq_true c2
  have c2b1 : decide (l0_4.length ≤ 5000) = true := decide_eq_true (by omega)
  clear c2
  replace H := Option.bind_eq_some_iff.mp H
  obtain ⟨t238, A30, H⟩ := H
  (try dsimp only at H)
  have A3 := Aside0.mk A30
  clear A30
  obtain rfl := Option.some.inj H
  go_enter Try.func10, Try.ntmps10
  go_wp2_with (first | ((with_reducible refine gate_dst (N := 1) rfl ?_); refine Cz.bx (N := 1) #[.int .i64 a0_0, .int .i64 a0_1, .int .i64 a0_2, .int .i64 a0_3, .slice A0_4 l0_4.length c0_4, .slice A0_5 l0_5.length c0_5] 26 ?_; intro gb237 hg w4 hbox hb; have BK237 := Aside0.mk (hbox); have GW237 := Aside0.mk ((Cz.gs hg : w.heap.size ≤ gb237)); have GE237 := GW237; replace HB := Cz.bs (w := w) hb; clear hb hbox hg; obtain ⟨z5_0, z5_1, z5_2, z5_3, z5_4, z5_5, y5_0, y5_1, y5_2, y5_3, y5_4, y5_5⟩ := Cz.d6 BK237) | (go_at_call 19; (with_reducible refine (waggonerlaw07_Few.calls _ _ l0_5 t238 _ ?side1 ?side2 A3.out).mono ?_); (case side1 => exact Cz.cb HR0_5); (case side2 => exact HC0_5.out); rintro e w' ⟨rfl, ⟨nd, rfl⟩⟩))
  go_ret
  exact ⟨Cz.er, Cz.bl (w := w)⟩
 ·rw [if_neg c2] at H
  have c2b0 : decide ((l0_4.length : Int) ≤ 5000) = false := decide_eq_false c2
  have c2b1 : decide (l0_4.length ≤ 5000) = false := decide_eq_false (by omega)
  clear c2
  obtain rfl := Option.some.inj H
  go_enter Try.func10, Try.ntmps10
  go_wp2_with (first | ((with_reducible refine gate_dst (N := 1) rfl ?_); refine Cz.bx (N := 1) #[.int .i64 a0_0, .int .i64 a0_1, .int .i64 a0_2, .int .i64 a0_3, .slice A0_4 l0_4.length c0_4, .slice A0_5 l0_5.length c0_5] 26 ?_; intro gb237 hg w6 hbox hb; have BK237 := Aside0.mk (hbox); have GW237 := Aside0.mk ((Cz.gs hg : w.heap.size ≤ gb237)); have GE237 := GW237; replace HB := Cz.bs (w := w) hb; clear hb hbox hg; obtain ⟨z7_0, z7_1, z7_2, z7_3, z7_4, z7_5, y7_0, y7_1, y7_2, y7_3, y7_4, y7_5⟩ := Cz.d6 BK237))
  go_ret
  exact ⟨Cz.er, Cz.bl (w := w)⟩
end Go.Proofs.Ytmgohkffphogdaa.PU
