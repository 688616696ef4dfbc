/- Words and walks that this claim names, of those that the kit's print and programs of this workplace have printed. -/
import Derived.Test.YtohkmmbmfhficaaZTCz
import Derived.Test.YtohkmmbmfhficaaZTPTx11
import Derived.Test.YtohkmmbmfhficaaZTPTx29
import Derived.Test.YtohkmmbmfhficaaZTPTx38
import Derived.Test.YtohkmmbmfhficaaZTPTx42
import Derived.Test.YtohkmmbmfhficaaZTPTx44
namespace Go.Proofs.Ytohkmmbmfhficaa.PT
open Go.Proofs.Ytohkmmbmfhficaa Go.RowKit Go.Proofs.YtohkmmbmfhficaaW.PrintWords Go.Proofs.YtohkmmbmfhficaaW.PrintLast Go.Proofs.YtohkmmbmfhficaaW.PrintMore
attribute [local go_sem] max2_int min2_int max_two min_two max_three min_three max_four min_four
set_option linter.unusedVariables false
set_option linter.unusedSimpArgs false
def waggonerlaw16_awake_p.f  : Option (Bool) := (frame_Write.f 3 3 5 ([] : List Int) 0 0 0).bind fun bt194 => ((frame_Read.f bt194.1).bind fun bt198 => ((frame_Read.f (([3, 2, 0, 3, 5, 0, 0, 0] : List Int))).bind fun bt213 => ((frame_Read.f ([] : List Int)).bind fun bt225 => ((frame_Write.f 0 0 0 ([] : List Int) 0 0 0).bind fun bt237 => (if 9 ≤ 281474976710656 then ((frame_Read.f (List.replicate 9 0)).bind fun bt244 => (if (bt194.1.length : Int) = 9 then ((waggonerref16_Same.f 3 3 5 ([] : List Int) 0 0 0 bt198.1 bt198.2.1 bt198.2.2.1 bt198.2.2.2.1 bt198.2.2.2.2.1 bt198.2.2.2.2.2.1 bt198.2.2.2.2.2.2.1).bind fun t256 => (if 5 ≤ (bt194.1.length : Int) then (if (strOfNums (bt194.1.take 5)).toList = (strOfNums (([3, 2, 0, 3, 5] : List Int))).toList then (if bt194.2 = 0 then (if t256 = true then (if bt198.2.2.2.2.2.2.2.1 = 9 then (if bt198.2.2.2.2.2.2.2.2 = 0 then (if bt213.2.2.2.2.2.2.2.2 = 161 then (if bt225.2.2.2.2.2.2.2.2 = 161 then (if bt237.2 = 160 then (if bt244.2.2.2.2.2.2.2.2 = 160 then ((frame_Check.f 3 3 5 ([] : List Int) 0 0 0).bind fun t264 => (if t264 = true then ((frame_Check.f 6 0 0 ([] : List Int) 0 0 0).bind fun t265 => (some (!t265))) else (some false))) else (some false)) else (some false)) else (some false)) else (some false)) else (some false)) else (some false)) else (some false)) else (some false)) else (some false)) else (none))) else (some false))) else (none))))))
def waggonerlaw16_awake_p.T11 : Bool × List (List Nat × List Nat) := (true, [([], []), ([0], [0]), ([1], [1]), ([], []), ([3], [3]), ([2, 4], [2, 4]), ([5], [5]), ([6], [6]), ([7, 6], [6, 7]), ([6, 8], [6, 8]), ([9, 6], [9]), ([10], [10]), ([10, 11], [10, 11]), ([12, 10], [12]), ([13], [13]), ([14, 13], [13, 14]), ([13, 15], [13, 15]), ([16, 13], [16]), ([17], [17]), ([18, 17], [17, 18]), ([17, 19], [17, 19]), ([20, 17], [20]), ([21], [21]), ([22, 21], [21, 22]), ([21, 23], [21, 23]), ([24, 21], [24]), ([25], [25]), ([26, 25], [25, 26]), ([25, 27], [25, 27]), ([28, 25], [28]), ([29], [29]), ([30, 29], [29, 30]), ([29, 31], [29, 31]), ([32, 29], [32]), ([33], [33]), ([34, 33], [33, 34]), ([33, 35], [33, 35]), ([36, 33], [36]), ([37], [37]), ([38, 37, 37], [37, 38]), ([37, 39], [37, 39]), ([40, 39], [40]), ([41], [41]), ([42, 41, 41], [41, 42]), ([43, 41], [41, 43]), ([41, 44], [41, 44]), ([45, 43, 0, 1, 2, 3, 4, 5, 6, 7, 8, 9, 10, 11, 12, 13, 14, 15, 16, 17, 18, 19, 20, 21, 22, 23, 24, 25, 26, 27, 28, 29, 30, 31, 32, 33, 34, 35, 36, 37, 38, 39, 40, 41, 42, 43, 44, 45], [45])])
def waggonerlaw16_awake_p.B11 : List Nat := [0, 1, 3, 0, 8, 31, 63, 127, 255, 511, 1023, 2047, 4095, 8191, 16383, 32767, 65535, 131071, 262143, 524287, 1048575, 2097151, 4194303, 8388607, 16777215, 33554431, 67108863, 134217727, 268435455, 536870911, 1073741823, 2147483647, 4294967295, 8589934591, 17179869183, 34359738367, 68719476735, 137438953471, 274877906943, 549755813887, 1099511627775, 2199023255551, 4398046511103, 8796093022207, 17592186044415, 35184372088831, 70368744177663]
theorem waggonerlaw16_awake_p.tab11 : rtab .any (opsOf Try.f18 11) = waggonerlaw16_awake_p.T11 := by kernel_rfl
theorem waggonerlaw16_awake_p.bits11 : waitsOk waggonerlaw16_awake_p.T11.2 waggonerlaw16_awake_p.B11 = true := by kernel_rfl
set_option maxHeartbeats 8000000 in
set_option maxRecDepth 100000 in
theorem waggonerlaw16_awake_p.calls  (r : Bool) (hT : r = true) (w : World) (h : waggonerlaw16_awake_p.f  = some r) :
  Calls Try.prog 18 #[] w fun e w' => e = .returned (.bool r) ∧ Below w.heap.size w w' := by
 subst hT
 have hu38 := Try.underlying38
 have HB := Aside0.mk (Below.refl w.heap.size w)
 have H : ((frame_Write.f 3 3 5 ([] : List Int) 0 0 0).bind fun bt194 => ((frame_Read.f bt194.1).bind fun bt198 => ((frame_Read.f (([3, 2, 0, 3, 5, 0, 0, 0] : List Int))).bind fun bt213 => ((frame_Read.f ([] : List Int)).bind fun bt225 => ((frame_Write.f 0 0 0 ([] : List Int) 0 0 0).bind fun bt237 => (if 9 ≤ 281474976710656 then ((frame_Read.f (List.replicate 9 0)).bind fun bt244 => (if (bt194.1.length : Int) = 9 then ((waggonerref16_Same.f 3 3 5 ([] : List Int) 0 0 0 bt198.1 bt198.2.1 bt198.2.2.1 bt198.2.2.2.1 bt198.2.2.2.2.1 bt198.2.2.2.2.2.1 bt198.2.2.2.2.2.2.1).bind fun t256 => (if 5 ≤ (bt194.1.length : Int) then (if (strOfNums (bt194.1.take 5)).toList = (strOfNums (([3, 2, 0, 3, 5] : List Int))).toList then (if bt194.2 = 0 then (if t256 = true then (if bt198.2.2.2.2.2.2.2.1 = 9 then (if bt198.2.2.2.2.2.2.2.2 = 0 then (if bt213.2.2.2.2.2.2.2.2 = 161 then (if bt225.2.2.2.2.2.2.2.2 = 161 then (if bt237.2 = 160 then (if bt244.2.2.2.2.2.2.2.2 = 160 then ((frame_Check.f 3 3 5 ([] : List Int) 0 0 0).bind fun t264 => (if t264 = true then ((frame_Check.f 6 0 0 ([] : List Int) 0 0 0).bind fun t265 => (some (!t265))) else (some false))) else (some false)) else (some false)) else (some false)) else (some false)) else (some false)) else (some false)) else (some false)) else (some false)) else (some false)) else (none))) else (some false))) else (none))))))) = some true := h
 clear h
 replace H := Option.bind_eq_some_iff.mp H
 obtain ⟨⟨t194, t197⟩, A10, H⟩ := H
 (try dsimp only at H)
 have A1 := Aside0.mk A10
 clear A10
 replace H := Option.bind_eq_some_iff.mp H
 obtain ⟨⟨t198, t199, t200, t201, t204, t205, t206, t207, t208⟩, A20, H⟩ := H
 (try dsimp only at H)
 have A2 := Aside0.mk A20
 clear A20
 obtain ⟨y210, hy210⟩ : ∃ y_ : List Int, y_ = (([3, 2, 0, 3, 5, 0, 0, 0] : List Int)) := ⟨_, rfl⟩
 replace H : ((frame_Read.f y210).bind fun bt213 => ((frame_Read.f ([] : List Int)).bind fun bt225 => ((frame_Write.f 0 0 0 ([] : List Int) 0 0 0).bind fun bt237 => (if 9 ≤ 281474976710656 then ((frame_Read.f (List.replicate 9 0)).bind fun bt244 => (if (t194.length : Int) = 9 then ((waggonerref16_Same.f 3 3 5 ([] : List Int) 0 0 0 t198 t199 t200 t201 t204 t205 t206).bind fun t256 => (if 5 ≤ (t194.length : Int) then (if (strOfNums (t194.take 5)).toList = (strOfNums (([3, 2, 0, 3, 5] : List Int))).toList then (if t197 = 0 then (if t256 = true then (if t207 = 9 then (if t208 = 0 then (if bt213.2.2.2.2.2.2.2.2 = 161 then (if bt225.2.2.2.2.2.2.2.2 = 161 then (if bt237.2 = 160 then (if bt244.2.2.2.2.2.2.2.2 = 160 then ((frame_Check.f 3 3 5 ([] : List Int) 0 0 0).bind fun t264 => (if t264 = true then ((frame_Check.f 6 0 0 ([] : List Int) 0 0 0).bind fun t265 => (some (!t265))) else (some false))) else (some false)) else (some false)) else (some false)) else (some false)) else (some false)) else (some false)) else (some false)) else (some false)) else (some false)) else (none))) else (some false))) else (none))))) = some true := by first | (rw [hy210]; with_reducible exact H) | (have H2_ := (Option.bind_some _ _).symm.trans H; rw [hy210]; with_reducible exact H2_) | (have H2_ := (Option.bind_some _ _).symm.trans H; with_reducible exact H2_) | with_reducible exact H | (rw [hy210]; exact H) | exact H
 have Ny210 := Aside0.mk hy210
 clear hy210
 replace H := Option.bind_eq_some_iff.mp H
 obtain ⟨⟨t213, t214, t215, t216, t219, t220, t221, t222, t223⟩, A30, H⟩ := H
 (try dsimp only at H)
 have A3 := Aside0.mk A30
 clear A30
 replace H := Option.bind_eq_some_iff.mp H
 obtain ⟨⟨t225, t226, t227, t228, t231, t232, t233, t234, t235⟩, A40, H⟩ := H
 (try dsimp only at H)
 have A4 := Aside0.mk A40
 clear A40
 replace H := Option.bind_eq_some_iff.mp H
 obtain ⟨⟨t237, t240⟩, A50, H⟩ := H
 (try dsimp only at H)
 have A5 := Aside0.mk A50
 clear A50
 by_cases c6 : 9 ≤ 281474976710656
 ·rw [if_pos c6] at H
  have c6b0 := eq_true c6
  have c6b1 : decide (9 ≤ 281474976710656) = true := decide_eq_true c6
  clear c6
  obtain ⟨y241, hy241⟩ : ∃ y_ : List Int, y_ = (List.replicate 9 0) := ⟨_, rfl⟩
  replace H : ((frame_Read.f y241).bind fun bt244 => (if (t194.length : Int) = 9 then ((waggonerref16_Same.f 3 3 5 ([] : List Int) 0 0 0 t198 t199 t200 t201 t204 t205 t206).bind fun t256 => (if 5 ≤ (t194.length : Int) then (if (strOfNums (t194.take 5)).toList = (strOfNums (([3, 2, 0, 3, 5] : List Int))).toList then (if t197 = 0 then (if t256 = true then (if t207 = 9 then (if t208 = 0 then (if t223 = 161 then (if t235 = 161 then (if t240 = 160 then (if bt244.2.2.2.2.2.2.2.2 = 160 then ((frame_Check.f 3 3 5 ([] : List Int) 0 0 0).bind fun t264 => (if t264 = true then ((frame_Check.f 6 0 0 ([] : List Int) 0 0 0).bind fun t265 => (some (!t265))) else (some false))) else (some false)) else (some false)) else (some false)) else (some false)) else (some false)) else (some false)) else (some false)) else (some false)) else (some false)) else (none))) else (some false))) = some true := by first | (rw [hy241]; with_reducible exact H) | (have H2_ := (Option.bind_some _ _).symm.trans H; rw [hy241]; with_reducible exact H2_) | (have H2_ := (Option.bind_some _ _).symm.trans H; with_reducible exact H2_) | with_reducible exact H | (rw [hy241]; exact H) | exact H
  have Ny241 := Aside0.mk hy241
  clear hy241
  replace H := Option.bind_eq_some_iff.mp H
  obtain ⟨⟨t244, t245, t246, t247, t250, t251, t252, t253, t254⟩, A70, H⟩ := H
  (try dsimp only at H)
  have A7 := Aside0.mk A70
  clear A70
  by_cases c8 : (t194.length : Int) = 9
  ·rw [if_pos c8] at H
   have c8b0 : ((t194.length : Int) == 9) = true := beq_iff_eq.mpr c8
   have c8b1 : ((t194.length : Int) != 9) = false := bne_eq_false_iff_eq.mpr c8
   clear c8
   replace H := Option.bind_eq_some_iff.mp H
   obtain ⟨t256, A90, H⟩ := H
   (try dsimp only at H)
   have A9 := Aside0.mk A90
   clear A90
   by_cases c10 : 5 ≤ (t194.length : Int)
   ·rw [if_pos c10] at H
    have c10b0 := eq_true c10
    have c10b1 : decide (5 ≤ (t194.length : Int)) = true := decide_eq_true c10
    clear c10
    obtain ⟨y257, hy257⟩ : ∃ y_ : List Int, y_ = (t194.take 5) := ⟨_, rfl⟩
    replace H : (if (strOfNums y257).toList = (strOfNums (([3, 2, 0, 3, 5] : List Int))).toList then (if t197 = 0 then (if t256 = true then (if t207 = 9 then (if t208 = 0 then (if t223 = 161 then (if t235 = 161 then (if t240 = 160 then (if t254 = 160 then ((frame_Check.f 3 3 5 ([] : List Int) 0 0 0).bind fun t264 => (if t264 = true then ((frame_Check.f 6 0 0 ([] : List Int) 0 0 0).bind fun t265 => (some (!t265))) else (some false))) else (some false)) else (some false)) else (some false)) else (some false)) else (some false)) else (some false)) else (some false)) else (some false)) else (some false)) = some true := by first | (rw [hy257]; with_reducible exact H) | (have H2_ := (Option.bind_some _ _).symm.trans H; rw [hy257]; with_reducible exact H2_) | (have H2_ := (Option.bind_some _ _).symm.trans H; with_reducible exact H2_) | with_reducible exact H | (rw [hy257]; exact H) | exact H
    have Ny257 := Aside0.mk hy257
    clear hy257
    obtain ⟨y261, hy261⟩ : ∃ y_ : List Int, y_ = (([3, 2, 0, 3, 5] : List Int)) := ⟨_, rfl⟩
    replace H : (if (strOfNums y257).toList = (strOfNums y261).toList then (if t197 = 0 then (if t256 = true then (if t207 = 9 then (if t208 = 0 then (if t223 = 161 then (if t235 = 161 then (if t240 = 160 then (if t254 = 160 then ((frame_Check.f 3 3 5 ([] : List Int) 0 0 0).bind fun t264 => (if t264 = true then ((frame_Check.f 6 0 0 ([] : List Int) 0 0 0).bind fun t265 => (some (!t265))) else (some false))) else (some false)) else (some false)) else (some false)) else (some false)) else (some false)) else (some false)) else (some false)) else (some false)) else (some false)) = some true := by first | (rw [hy261]; with_reducible exact H) | (have H2_ := (Option.bind_some _ _).symm.trans H; rw [hy261]; with_reducible exact H2_) | (have H2_ := (Option.bind_some _ _).symm.trans H; with_reducible exact H2_) | with_reducible exact H | (rw [hy261]; exact H) | exact H
    have Ny261 := Aside0.mk hy261
    clear hy261
    by_cases c11 : (strOfNums y257).toList = (strOfNums y261).toList
    ·rw [if_pos c11] at H
     have c11b0 : ((strOfNums y257).toList == (strOfNums y261).toList) = true := beq_iff_eq.mpr c11
     have c11b1 : ((strOfNums y257).toList != (strOfNums y261).toList) = false := bne_eq_false_iff_eq.mpr c11
     clear c11
     by_cases c12 : t197 = 0
     ·rw [if_pos c12] at H
      have c12b0 : (t197 == 0) = true := beq_iff_eq.mpr c12
      have c12b1 : (t197 != 0) = false := bne_eq_false_iff_eq.mpr c12
      clear c12
      by_cases c13 : t256 = true
      ·subst c13
       rw [if_pos rfl] at H
       by_cases c14 : t207 = 9
       ·rw [if_pos c14] at H
        have c14b0 : (t207 == 9) = true := beq_iff_eq.mpr c14
        have c14b1 : (t207 != 9) = false := bne_eq_false_iff_eq.mpr c14
        clear c14
        by_cases c15 : t208 = 0
        ·rw [if_pos c15] at H
         have c15b0 : (t208 == 0) = true := beq_iff_eq.mpr c15
         have c15b1 : (t208 != 0) = false := bne_eq_false_iff_eq.mpr c15
         clear c15
         by_cases c16 : t223 = 161
         ·rw [if_pos c16] at H
          have c16b0 : (t223 == 161) = true := beq_iff_eq.mpr c16
          have c16b1 : (t223 != 161) = false := bne_eq_false_iff_eq.mpr c16
          clear c16
          by_cases c17 : t235 = 161
          ·rw [if_pos c17] at H
           have c17b0 : (t235 == 161) = true := beq_iff_eq.mpr c17
           have c17b1 : (t235 != 161) = false := bne_eq_false_iff_eq.mpr c17
           clear c17
           by_cases c18 : t240 = 160
           ·rw [if_pos c18] at H
            have c18b0 : (t240 == 160) = true := beq_iff_eq.mpr c18
            have c18b1 : (t240 != 160) = false := bne_eq_false_iff_eq.mpr c18
            clear c18
            by_cases c19 : t254 = 160
            ·rw [if_pos c19] at H
             have c19b0 : (t254 == 160) = true := beq_iff_eq.mpr c19
             have c19b1 : (t254 != 160) = false := bne_eq_false_iff_eq.mpr c19
             clear c19
             replace H := Option.bind_eq_some_iff.mp H
             obtain ⟨t264, A200, H⟩ := H
             (try dsimp only at H)
             have A20 := Aside0.mk A200
             clear A200
             by_cases c21 : t264 = true
             ·subst c21
              rw [if_pos rfl] at H
              replace H := Option.bind_eq_some_iff.mp H
              obtain ⟨t265, A220, H⟩ := H
              (try dsimp only at H)
              have A22 := Aside0.mk A220
              clear A220
              (have HRT := Aside0.mk (Option.some.inj H); clear H)
              go_enter Try.func18, Try.ntmps18
              try go_wp2_with (first | ((with_reducible refine gate_dst (N := 1) rfl ?_); refine Cz.bx (N := 1) #[.int .i64 0, .int .i64 0, .int .i64 0, .slice none 0 0, .int .i64 0, .int .i64 0, .int .i64 0] 38 ?_; intro gb193 hg w23 hbox hb; have BK193 := Aside0.mk (hbox); have GW193 := Aside0.mk ((Cz.gs hg : w.heap.size ≤ gb193)); have GE193 := GW193; replace HB := Cz.bs (w := w) hb; clear hb hbox hg; obtain ⟨z24_0, z24_1, z24_2, z24_3, z24_4, z24_5, z24_6, y24_0, y24_1, y24_2, y24_3, y24_4, y24_5, y24_6⟩ := Cz.d7 BK193) | ((with_reducible refine gate_callee (f := 19) rfl ?_); refine Cz.gL (N := (some 22)) Try.func19 #[.agg #[.int .i64 3, .int .i64 3, .int .i64 5, .slice none 0 0, .int .i64 0, .int .i64 0, .int .i64 0]] ?_; (refine (frame_Write.calls 3 3 5 _ _ ([] : List Int) 0 0 0 t194 t197 _ ?side1 ?side2 A1.out).mono ?_); (case side1 => exact Kd.C_nil _ _); (case side2 => exact Nat.le_refl _); rintro e w25 ⟨v195, rfl, ho0, hb⟩; refine ⟨_, rfl, ?_⟩; have HO196 := Aside0.mk (Kd.R_lower ho0 (below_size (Cz.bl (w := w)))); replace BK193 := Aside0.mk (blk_below (g := gb193) (o := .cells #[.int .i64 3, .int .i64 3, .int .i64 5, .slice none 0 0, .int .i64 0, .int .i64 0, .int .i64 0] 38 (0, 0)) (by (with_reducible repeat (first | refine blk_drewN ?_ _ | refine blk_drew ?_ | refine blk_alloc ?_ _)); apply Cz.a7; (with_reducible repeat (first | refine blk_drewN ?_ _ | refine blk_drew ?_ | refine blk_alloc ?_ _)); exact BK193.out) hb); replace HB := Cz.bs (w := w) hb; (try clear hb); (try clear ho0); obtain ⟨Ao26, co26, eo26⟩ := Kd.R_slice HO196.out; subst eo26) | ((with_reducible refine gate_callee (f := 21) rfl ?_); refine Cz.gL (N := (some 27)) Try.func21 #[.slice Ao26 t194.length co26] ?_; (with_reducible refine (frame_Read.calls _ _ t194 t198 t199 t200 t201 t204 t205 t206 t207 t208 _ ?side1 ?side2 A2.out).mono ?_); (case side1 => repeat (first | exact (Kd.R_reads' HO196.out).2.2 | (with_reducible refine Kd.C_alloc ?_ _) | (with_reducible refine Kd.C_drewN ?_ _) | (with_reducible refine Kd.C_drew ?_))); (case side2 => exact (Kd.R_reads' HO196.out).2.1); rintro e w27 ⟨v202, rfl, ho0, hb⟩; refine ⟨_, rfl, ?_⟩; have HO203 := Aside0.mk (Kd.R_lower (Kd.R_new' ho0 (Kd.R_lt (by (with_reducible repeat (first | apply Kd.R_alloc | apply Kd.R_drewN | apply Kd.R_drew)); exact HO196.out))) (below_size (Cz.bl (w := w)))); replace HO196 := Aside0.mk (Kd.R_elder' Cz.rh (Kd.R_base ho0) hb); replace BK193 := Cz.bk BK193 hb; replace HB := Cz.bs (w := w) hb; (try clear hb); (try clear ho0)) | ((with_reducible refine gate_dst (N := 4) rfl ?_); refine Cz.bx (N := 4) #[.int .i64 0, .int .i64 0, .int .i64 0, .slice none 0 0, .int .i64 0, .int .i64 0, .int .i64 0] 38 ?_; intro gb209 hg w28 hbox hb; have BK209 := Aside0.mk (hbox); have GW209 := Aside0.mk ((Cz.gs hg : w.heap.size ≤ gb209)); have GE209 := GW209; have NB193_209 := Aside0.mk ((Cz.nl BK193 hg : gb193 ≠ gb209)); have NB209_193 := Aside0.mk ((Cz.nr BK193 hg : gb209 ≠ gb193)); replace HO196 := Cz.rb HO196 hb; replace HO203 := Cz.rb HO203 hb; replace BK193 := Cz.bk BK193 hb; replace HB := Cz.bs (w := w) hb; clear hb hbox hg; have hnb29 := NB209_193.out; have hnc29 := NB193_209.out; obtain ⟨z30_0, z30_1, z30_2, z30_3, z30_4, z30_5, z30_6, y30_0, y30_1, y30_2, y30_3, y30_4, y30_5, y30_6⟩ := Cz.d7 BK209; obtain ⟨Ao31, co31, eo31⟩ := Kd.R_slice HO203.out; subst eo31) | ((with_reducible refine gate_dst (N := 32) rfl ?_); refine Kd.R_lit (Kd.int .u8) _ 5 ?hg (N := 32) ?hd (xs := ([3, 2, 0, 3, 5, 0, 0, 0] : List Int)) (inner := [.int .u8 3, .int .u8 2, .int .u8 0, .int .u8 3, .int .u8 5, .int .u8 0, .int .u8 0, .int .u8 0]) (ok := fun _ => True) (okp := fun _ => True) ?hr ?hp (fun _ hk => hk) trivial (Below.refl _ _) (Nat.le_refl _) (by simp) ?_; (case hd => rfl); (case hg => rfl); (case hr => first | (go_simp; done) | (go_simp; rfl)); (case hp => exact (Reps.one (show Kd.M (Kd.int .u8) _ _ _ 3 [.int .u8 3] from rfl) (Reps.one (show Kd.M (Kd.int .u8) _ _ _ 2 [.int .u8 2] from rfl) (Reps.one (show Kd.M (Kd.int .u8) _ _ _ 0 [.int .u8 0] from rfl) (Reps.one (show Kd.M (Kd.int .u8) _ _ _ 3 [.int .u8 3] from rfl) (Reps.one (show Kd.M (Kd.int .u8) _ _ _ 5 [.int .u8 5] from rfl) (Reps.one (show Kd.M (Kd.int .u8) _ _ _ 0 [.int .u8 0] from rfl) (Reps.one (show Kd.M (Kd.int .u8) _ _ _ 0 [.int .u8 0] from rfl) (Reps.one (show Kd.M (Kd.int .u8) _ _ _ 0 [.int .u8 0] from rfl) (Reps.none _ _)))))))))); intro v211 w32 ho33 hb hg_ hnew_; clear hg_ hnew_; (first | rw [← Ny210.out] at ho33 | (simp only [Int.reduceToNat] at ho33; rw [← Ny210.out] at ho33)); have HO212 := Aside0.mk (Kd.R_lower (Kd.R_new' (Kd.R_new' ho33 (Kd.R_lt (by (with_reducible repeat (first | apply Kd.R_alloc | apply Kd.R_drewN | apply Kd.R_drew)); exact (Kd.R_mono (Cz.rf (Cz.rf (Cz.rf (Cz.rf (Cz.rf (Cz.rf (Cz.rf (Kd.R_types HO196.out BK209.out (by decide))))))))) (fun _ h_ => h_.1))))) (Kd.R_lt (by (with_reducible repeat (first | apply Kd.R_alloc | apply Kd.R_drewN | apply Kd.R_drew)); exact (Kd.R_mono (Cz.rf (Cz.rf (Cz.rf (Cz.rf (Cz.rf (Cz.rf (Cz.rf (Kd.R_types HO203.out BK209.out (by decide))))))))) (fun _ h_ => h_.1))))) (below_size (Cz.bl (w := w)))); replace HO196 := Aside0.mk (Kd.R_elder' (by (with_reducible repeat (first | apply Kd.R_alloc | apply Kd.R_drewN | apply Kd.R_drew)); exact (Kd.R_mono (Cz.rf (Cz.rf (Cz.rf (Cz.rf (Cz.rf (Cz.rf (Cz.rf (Kd.R_types HO196.out BK209.out (by decide))))))))) (fun _ h_ => h_.1))) (Kd.R_base ho33) hb); replace HO203 := Aside0.mk (Kd.R_elder' (by (with_reducible repeat (first | apply Kd.R_alloc | apply Kd.R_drewN | apply Kd.R_drew)); exact (Kd.R_mono (Cz.rf (Cz.rf (Cz.rf (Cz.rf (Cz.rf (Cz.rf (Cz.rf (Kd.R_types HO203.out BK209.out (by decide))))))))) (fun _ h_ => h_.1))) (Kd.R_base ho33) hb); replace BK193 := Aside0.mk (blk_below (g := gb193) (o := .cells #[.int .i64 3, .int .i64 3, .int .i64 5, .slice none 0 0, .int .i64 0, .int .i64 0, .int .i64 0] 38 (0, 0)) (by (with_reducible repeat (first | refine blk_drewN ?_ _ | refine blk_drew ?_ | refine blk_alloc ?_ _)); refine blk_far ?_ NB193_209.out _; refine blk_far ?_ NB193_209.out _; refine blk_far ?_ NB193_209.out _; refine blk_far ?_ NB193_209.out _; refine blk_far ?_ NB193_209.out _; refine blk_far ?_ NB193_209.out _; refine blk_far ?_ NB193_209.out _; (with_reducible repeat (first | refine blk_drewN ?_ _ | refine blk_drew ?_ | refine blk_alloc ?_ _)); exact BK193.out) hb); replace BK209 := Aside0.mk (blk_below (g := gb209) (o := .cells #[.int .i64 t198, .int .i64 t199, .int .i64 t200, .slice Ao31 t201.length co31, .int .i64 t204, .int .i64 t205, .int .i64 t206] 38 (0, 0)) (by (with_reducible repeat (first | refine blk_drewN ?_ _ | refine blk_drew ?_ | refine blk_alloc ?_ _)); apply Cz.a7; (with_reducible repeat (first | refine blk_drewN ?_ _ | refine blk_drew ?_ | refine blk_alloc ?_ _)); exact BK209.out) hb); replace HB := Cz.bs (w := w) hb; clear hb ho33; obtain ⟨Ao34, co34, eo34⟩ := Kd.R_slice HO212.out; subst eo34) | ((with_reducible refine gate_callee (f := 21) rfl ?_); refine Cz.gL (N := (some 33)) Try.func21 #[.slice Ao34 y210.length co34] ?_; (with_reducible refine (frame_Read.calls _ _ y210 t213 t214 t215 t216 t219 t220 t221 t222 t223 _ ?side1 ?side2 A3.out).mono ?_); (case side1 => repeat (first | exact (Kd.R_reads' HO212.out).2.2 | (with_reducible refine Kd.C_alloc ?_ _) | (with_reducible refine Kd.C_drewN ?_ _) | (with_reducible refine Kd.C_drew ?_))); (case side2 => exact (Kd.R_reads' HO212.out).2.1); rintro e w35 ⟨v217, rfl, ho0, hb⟩; refine ⟨_, rfl, ?_⟩; have HO218 := Aside0.mk (Kd.R_lower (Kd.R_new' (Kd.R_new' (Kd.R_new' ho0 (Kd.R_lt (by (with_reducible repeat (first | apply Kd.R_alloc | apply Kd.R_drewN | apply Kd.R_drew)); exact HO196.out))) (Kd.R_lt (by (with_reducible repeat (first | apply Kd.R_alloc | apply Kd.R_drewN | apply Kd.R_drew)); exact HO203.out))) (Kd.R_lt (by (with_reducible repeat (first | apply Kd.R_alloc | apply Kd.R_drewN | apply Kd.R_drew)); exact HO212.out))) (below_size (Cz.bl (w := w)))); replace HO196 := Aside0.mk (Kd.R_elder' Cz.rh (Kd.R_base ho0) hb); replace HO203 := Aside0.mk (Kd.R_elder' Cz.rh (Kd.R_base ho0) hb); replace HO212 := Aside0.mk (Kd.R_elder' Cz.rh (Kd.R_base ho0) hb); replace BK193 := Cz.bk BK193 hb; replace BK209 := Cz.bk BK209 hb; replace HB := Cz.bs (w := w) hb; (try clear hb); (try clear ho0)) | ((with_reducible refine gate_dst (N := 7) rfl ?_); refine Cz.bx (N := 7) #[.int .i64 0, .int .i64 0, .int .i64 0, .slice none 0 0, .int .i64 0, .int .i64 0, .int .i64 0] 38 ?_; intro gb224 hg w36 hbox hb; have BK224 := Aside0.mk (hbox); have GW224 := Aside0.mk ((Cz.gs hg : w.heap.size ≤ gb224)); have GE224 := GW224; have NB193_224 := Aside0.mk ((Cz.nl BK193 hg : gb193 ≠ gb224)); have NB224_193 := Aside0.mk ((Cz.nr BK193 hg : gb224 ≠ gb193)); have NB209_224 := Aside0.mk ((Cz.nl BK209 hg : gb209 ≠ gb224)); have NB224_209 := Aside0.mk ((Cz.nr BK209 hg : gb224 ≠ gb209)); replace HO196 := Cz.rb HO196 hb; replace HO203 := Cz.rb HO203 hb; replace HO212 := Cz.rb HO212 hb; replace HO218 := Cz.rb HO218 hb; replace BK193 := Cz.bk BK193 hb; replace BK209 := Cz.bk BK209 hb; replace HB := Cz.bs (w := w) hb; clear hb hbox hg; have hnb37 := NB224_193.out; have hnc37 := NB193_224.out; have hnb38 := NB224_209.out; have hnc38 := NB209_224.out; obtain ⟨z39_0, z39_1, z39_2, z39_3, z39_4, z39_5, z39_6, y39_0, y39_1, y39_2, y39_3, y39_4, y39_5, y39_6⟩ := Cz.d7 BK224; obtain ⟨Ao40, co40, eo40⟩ := Kd.R_slice HO218.out; subst eo40) | ((with_reducible refine gate_callee (f := 21) rfl ?_); refine Cz.gL (N := (some 38)) Try.func21 #[.slice none 0 0] ?_; (refine (frame_Read.calls _ _ ([] : List Int) t225 t226 t227 t228 t231 t232 t233 t234 t235 _ ?side1 ?side2 A4.out).mono ?_); (case side1 => exact Kd.C_nil _ _); (case side2 => exact Nat.le_refl _); rintro e w41 ⟨v229, rfl, ho0, hb⟩; refine ⟨_, rfl, ?_⟩; have HO230 := Aside0.mk (Kd.R_lower (Kd.R_new' (Kd.R_new' (Kd.R_new' (Kd.R_new' ho0 (Kd.R_lt (by (with_reducible repeat (first | apply Kd.R_alloc | apply Kd.R_drewN | apply Kd.R_drew)); exact (Kd.R_mono (Cz.rf (Cz.rf (Cz.rf (Cz.rf (Cz.rf (Cz.rf (Cz.rf (Kd.R_types HO196.out BK224.out (by decide))))))))) (fun _ h_ => h_.1))))) (Kd.R_lt (by (with_reducible repeat (first | apply Kd.R_alloc | apply Kd.R_drewN | apply Kd.R_drew)); exact (Kd.R_mono (Cz.rf (Cz.rf (Cz.rf (Cz.rf (Cz.rf (Cz.rf (Cz.rf (Kd.R_types HO203.out BK224.out (by decide))))))))) (fun _ h_ => h_.1))))) (Kd.R_lt (by (with_reducible repeat (first | apply Kd.R_alloc | apply Kd.R_drewN | apply Kd.R_drew)); exact (Kd.R_mono (Cz.rf (Cz.rf (Cz.rf (Cz.rf (Cz.rf (Cz.rf (Cz.rf (Kd.R_types HO212.out BK224.out (by decide))))))))) (fun _ h_ => h_.1))))) (Kd.R_lt (by (with_reducible repeat (first | apply Kd.R_alloc | apply Kd.R_drewN | apply Kd.R_drew)); exact (Kd.R_mono (Cz.rf (Cz.rf (Cz.rf (Cz.rf (Cz.rf (Cz.rf (Cz.rf (Kd.R_types HO218.out BK224.out (by decide))))))))) (fun _ h_ => h_.1))))) (below_size (Cz.bl (w := w)))); replace HO196 := Aside0.mk (Kd.R_elder' (by (with_reducible repeat (first | apply Kd.R_alloc | apply Kd.R_drewN | apply Kd.R_drew)); exact (Kd.R_mono (Cz.rf (Cz.rf (Cz.rf (Cz.rf (Cz.rf (Cz.rf (Cz.rf (Kd.R_types HO196.out BK224.out (by decide))))))))) (fun _ h_ => h_.1))) (Kd.R_base ho0) hb); replace HO203 := Aside0.mk (Kd.R_elder' (by (with_reducible repeat (first | apply Kd.R_alloc | apply Kd.R_drewN | apply Kd.R_drew)); exact (Kd.R_mono (Cz.rf (Cz.rf (Cz.rf (Cz.rf (Cz.rf (Cz.rf (Cz.rf (Kd.R_types HO203.out BK224.out (by decide))))))))) (fun _ h_ => h_.1))) (Kd.R_base ho0) hb); replace HO212 := Aside0.mk (Kd.R_elder' (by (with_reducible repeat (first | apply Kd.R_alloc | apply Kd.R_drewN | apply Kd.R_drew)); exact (Kd.R_mono (Cz.rf (Cz.rf (Cz.rf (Cz.rf (Cz.rf (Cz.rf (Cz.rf (Kd.R_types HO212.out BK224.out (by decide))))))))) (fun _ h_ => h_.1))) (Kd.R_base ho0) hb); replace HO218 := Aside0.mk (Kd.R_elder' (by (with_reducible repeat (first | apply Kd.R_alloc | apply Kd.R_drewN | apply Kd.R_drew)); exact (Kd.R_mono (Cz.rf (Cz.rf (Cz.rf (Cz.rf (Cz.rf (Cz.rf (Cz.rf (Kd.R_types HO218.out BK224.out (by decide))))))))) (fun _ h_ => h_.1))) (Kd.R_base ho0) hb); replace BK193 := Aside0.mk (blk_below (g := gb193) (o := .cells #[.int .i64 3, .int .i64 3, .int .i64 5, .slice none 0 0, .int .i64 0, .int .i64 0, .int .i64 0] 38 (0, 0)) (by (with_reducible repeat (first | refine blk_drewN ?_ _ | refine blk_drew ?_ | refine blk_alloc ?_ _)); refine blk_far ?_ NB193_224.out _; refine blk_far ?_ NB193_224.out _; refine blk_far ?_ NB193_224.out _; refine blk_far ?_ NB193_224.out _; refine blk_far ?_ NB193_224.out _; refine blk_far ?_ NB193_224.out _; refine blk_far ?_ NB193_224.out _; (with_reducible repeat (first | refine blk_drewN ?_ _ | refine blk_drew ?_ | refine blk_alloc ?_ _)); exact BK193.out) hb); replace BK209 := Aside0.mk (blk_below (g := gb209) (o := .cells #[.int .i64 t198, .int .i64 t199, .int .i64 t200, .slice Ao31 t201.length co31, .int .i64 t204, .int .i64 t205, .int .i64 t206] 38 (0, 0)) (by (with_reducible repeat (first | refine blk_drewN ?_ _ | refine blk_drew ?_ | refine blk_alloc ?_ _)); refine blk_far ?_ NB209_224.out _; refine blk_far ?_ NB209_224.out _; refine blk_far ?_ NB209_224.out _; refine blk_far ?_ NB209_224.out _; refine blk_far ?_ NB209_224.out _; refine blk_far ?_ NB209_224.out _; refine blk_far ?_ NB209_224.out _; (with_reducible repeat (first | refine blk_drewN ?_ _ | refine blk_drew ?_ | refine blk_alloc ?_ _)); exact BK209.out) hb); replace BK224 := Aside0.mk (blk_below (g := gb224) (o := .cells #[.int .i64 t213, .int .i64 t214, .int .i64 t215, .slice Ao40 t216.length co40, .int .i64 t219, .int .i64 t220, .int .i64 t221] 38 (0, 0)) (by (with_reducible repeat (first | refine blk_drewN ?_ _ | refine blk_drew ?_ | refine blk_alloc ?_ _)); apply Cz.a7; (with_reducible repeat (first | refine blk_drewN ?_ _ | refine blk_drew ?_ | refine blk_alloc ?_ _)); exact BK224.out) hb); replace HB := Cz.bs (w := w) hb; (try clear hb); (try clear hk); (try clear ho0)) | ((with_reducible refine gate_dst (N := 10) rfl ?_); refine Cz.bx (N := 10) #[.int .i64 0, .int .i64 0, .int .i64 0, .slice none 0 0, .int .i64 0, .int .i64 0, .int .i64 0] 38 ?_; intro gb236 hg w42 hbox hb; have BK236 := Aside0.mk (hbox); have GW236 := Aside0.mk ((Cz.gs hg : w.heap.size ≤ gb236)); have GE236 := GW236; have NB193_236 := Aside0.mk ((Cz.nl BK193 hg : gb193 ≠ gb236)); have NB236_193 := Aside0.mk ((Cz.nr BK193 hg : gb236 ≠ gb193)); have NB209_236 := Aside0.mk ((Cz.nl BK209 hg : gb209 ≠ gb236)); have NB236_209 := Aside0.mk ((Cz.nr BK209 hg : gb236 ≠ gb209)); have NB224_236 := Aside0.mk ((Cz.nl BK224 hg : gb224 ≠ gb236)); have NB236_224 := Aside0.mk ((Cz.nr BK224 hg : gb236 ≠ gb224)); replace HO196 := Cz.rb HO196 hb; replace HO203 := Cz.rb HO203 hb; replace HO212 := Cz.rb HO212 hb; replace HO218 := Cz.rb HO218 hb; replace HO230 := Cz.rb HO230 hb; replace BK193 := Cz.bk BK193 hb; replace BK209 := Cz.bk BK209 hb; replace BK224 := Cz.bk BK224 hb; replace HB := Cz.bs (w := w) hb; clear hb hbox hg; have hnb43 := NB236_193.out; have hnc43 := NB193_236.out; have hnb44 := NB236_209.out; have hnc44 := NB209_236.out; have hnb45 := NB236_224.out; have hnc45 := NB224_236.out; obtain ⟨z46_0, z46_1, z46_2, z46_3, z46_4, z46_5, z46_6, y46_0, y46_1, y46_2, y46_3, y46_4, y46_5, y46_6⟩ := Cz.d7 BK236; obtain ⟨Ao47, co47, eo47⟩ := Kd.R_slice HO230.out; subst eo47) | ((with_reducible refine gate_callee (f := 19) rfl ?_); refine Cz.gL (N := (some 44)) Try.func19 #[.agg #[.int .i64 0, .int .i64 0, .int .i64 0, .slice none 0 0, .int .i64 0, .int .i64 0, .int .i64 0]] ?_; (refine (frame_Write.calls 0 0 0 _ _ ([] : List Int) 0 0 0 t237 t240 _ ?side1 ?side2 A5.out).mono ?_); (case side1 => exact Kd.C_nil _ _); (case side2 => exact Nat.le_refl _); rintro e w48 ⟨v238, rfl, ho0, hb⟩; refine ⟨_, rfl, ?_⟩; have HO239 := Aside0.mk (Kd.R_lower (Kd.R_new' (Kd.R_new' (Kd.R_new' (Kd.R_new' (Kd.R_new' ho0 (Kd.R_lt (by (with_reducible repeat (first | apply Kd.R_alloc | apply Kd.R_drewN | apply Kd.R_drew)); exact (Kd.R_mono (Cz.rf (Cz.rf (Cz.rf (Cz.rf (Cz.rf (Cz.rf (Cz.rf (Kd.R_types HO196.out BK236.out (by decide))))))))) (fun _ h_ => h_.1))))) (Kd.R_lt (by (with_reducible repeat (first | apply Kd.R_alloc | apply Kd.R_drewN | apply Kd.R_drew)); exact (Kd.R_mono (Cz.rf (Cz.rf (Cz.rf (Cz.rf (Cz.rf (Cz.rf (Cz.rf (Kd.R_types HO203.out BK236.out (by decide))))))))) (fun _ h_ => h_.1))))) (Kd.R_lt (by (with_reducible repeat (first | apply Kd.R_alloc | apply Kd.R_drewN | apply Kd.R_drew)); exact (Kd.R_mono (Cz.rf (Cz.rf (Cz.rf (Cz.rf (Cz.rf (Cz.rf (Cz.rf (Kd.R_types HO212.out BK236.out (by decide))))))))) (fun _ h_ => h_.1))))) (Kd.R_lt (by (with_reducible repeat (first | apply Kd.R_alloc | apply Kd.R_drewN | apply Kd.R_drew)); exact (Kd.R_mono (Cz.rf (Cz.rf (Cz.rf (Cz.rf (Cz.rf (Cz.rf (Cz.rf (Kd.R_types HO218.out BK236.out (by decide))))))))) (fun _ h_ => h_.1))))) (Kd.R_lt (by (with_reducible repeat (first | apply Kd.R_alloc | apply Kd.R_drewN | apply Kd.R_drew)); exact (Kd.R_mono (Cz.rf (Cz.rf (Cz.rf (Cz.rf (Cz.rf (Cz.rf (Cz.rf (Kd.R_types HO230.out BK236.out (by decide))))))))) (fun _ h_ => h_.1))))) (below_size (Cz.bl (w := w)))); replace HO196 := Aside0.mk (Kd.R_elder' (by (with_reducible repeat (first | apply Kd.R_alloc | apply Kd.R_drewN | apply Kd.R_drew)); exact (Kd.R_mono (Cz.rf (Cz.rf (Cz.rf (Cz.rf (Cz.rf (Cz.rf (Cz.rf (Kd.R_types HO196.out BK236.out (by decide))))))))) (fun _ h_ => h_.1))) (Kd.R_base ho0) hb); replace HO203 := Aside0.mk (Kd.R_elder' (by (with_reducible repeat (first | apply Kd.R_alloc | apply Kd.R_drewN | apply Kd.R_drew)); exact (Kd.R_mono (Cz.rf (Cz.rf (Cz.rf (Cz.rf (Cz.rf (Cz.rf (Cz.rf (Kd.R_types HO203.out BK236.out (by decide))))))))) (fun _ h_ => h_.1))) (Kd.R_base ho0) hb); replace HO212 := Aside0.mk (Kd.R_elder' (by (with_reducible repeat (first | apply Kd.R_alloc | apply Kd.R_drewN | apply Kd.R_drew)); exact (Kd.R_mono (Cz.rf (Cz.rf (Cz.rf (Cz.rf (Cz.rf (Cz.rf (Cz.rf (Kd.R_types HO212.out BK236.out (by decide))))))))) (fun _ h_ => h_.1))) (Kd.R_base ho0) hb); replace HO218 := Aside0.mk (Kd.R_elder' (by (with_reducible repeat (first | apply Kd.R_alloc | apply Kd.R_drewN | apply Kd.R_drew)); exact (Kd.R_mono (Cz.rf (Cz.rf (Cz.rf (Cz.rf (Cz.rf (Cz.rf (Cz.rf (Kd.R_types HO218.out BK236.out (by decide))))))))) (fun _ h_ => h_.1))) (Kd.R_base ho0) hb); replace HO230 := Aside0.mk (Kd.R_elder' (by (with_reducible repeat (first | apply Kd.R_alloc | apply Kd.R_drewN | apply Kd.R_drew)); exact (Kd.R_mono (Cz.rf (Cz.rf (Cz.rf (Cz.rf (Cz.rf (Cz.rf (Cz.rf (Kd.R_types HO230.out BK236.out (by decide))))))))) (fun _ h_ => h_.1))) (Kd.R_base ho0) hb); replace BK193 := Aside0.mk (blk_below (g := gb193) (o := .cells #[.int .i64 3, .int .i64 3, .int .i64 5, .slice none 0 0, .int .i64 0, .int .i64 0, .int .i64 0] 38 (0, 0)) (by (with_reducible repeat (first | refine blk_drewN ?_ _ | refine blk_drew ?_ | refine blk_alloc ?_ _)); refine blk_far ?_ NB193_236.out _; refine blk_far ?_ NB193_236.out _; refine blk_far ?_ NB193_236.out _; refine blk_far ?_ NB193_236.out _; refine blk_far ?_ NB193_236.out _; refine blk_far ?_ NB193_236.out _; refine blk_far ?_ NB193_236.out _; (with_reducible repeat (first | refine blk_drewN ?_ _ | refine blk_drew ?_ | refine blk_alloc ?_ _)); exact BK193.out) hb); replace BK209 := Aside0.mk (blk_below (g := gb209) (o := .cells #[.int .i64 t198, .int .i64 t199, .int .i64 t200, .slice Ao31 t201.length co31, .int .i64 t204, .int .i64 t205, .int .i64 t206] 38 (0, 0)) (by (with_reducible repeat (first | refine blk_drewN ?_ _ | refine blk_drew ?_ | refine blk_alloc ?_ _)); refine blk_far ?_ NB209_236.out _; refine blk_far ?_ NB209_236.out _; refine blk_far ?_ NB209_236.out _; refine blk_far ?_ NB209_236.out _; refine blk_far ?_ NB209_236.out _; refine blk_far ?_ NB209_236.out _; refine blk_far ?_ NB209_236.out _; (with_reducible repeat (first | refine blk_drewN ?_ _ | refine blk_drew ?_ | refine blk_alloc ?_ _)); exact BK209.out) hb); replace BK224 := Aside0.mk (blk_below (g := gb224) (o := .cells #[.int .i64 t213, .int .i64 t214, .int .i64 t215, .slice Ao40 t216.length co40, .int .i64 t219, .int .i64 t220, .int .i64 t221] 38 (0, 0)) (by (with_reducible repeat (first | refine blk_drewN ?_ _ | refine blk_drew ?_ | refine blk_alloc ?_ _)); refine blk_far ?_ NB224_236.out _; refine blk_far ?_ NB224_236.out _; refine blk_far ?_ NB224_236.out _; refine blk_far ?_ NB224_236.out _; refine blk_far ?_ NB224_236.out _; refine blk_far ?_ NB224_236.out _; refine blk_far ?_ NB224_236.out _; (with_reducible repeat (first | refine blk_drewN ?_ _ | refine blk_drew ?_ | refine blk_alloc ?_ _)); exact BK224.out) hb); replace BK236 := Aside0.mk (blk_below (g := gb236) (o := .cells #[.int .i64 t225, .int .i64 t226, .int .i64 t227, .slice Ao47 t228.length co47, .int .i64 t231, .int .i64 t232, .int .i64 t233] 38 (0, 0)) (by (with_reducible repeat (first | refine blk_drewN ?_ _ | refine blk_drew ?_ | refine blk_alloc ?_ _)); apply Cz.a7; (with_reducible repeat (first | refine blk_drewN ?_ _ | refine blk_drew ?_ | refine blk_alloc ?_ _)); exact BK236.out) hb); replace HB := Cz.bs (w := w) hb; (try clear hb); (try clear hk); (try clear ho0)) | ((with_reducible refine gate_dst (N := 48) rfl ?_); refine Kd.R_make (Kd.int .u8) _ 5 rfl (N := 48) rfl 27 _ _ rfl 9 rfl rfl Try.underlying27 (.int .u8 0) 1 info5 rfl (by decide) (by omega) 0 (ok := fun _ => True) (okp := fun _ => True) rfl (fun _ hk => hk) trivial (by omega) (by omega) (Below.refl _ _) (Nat.le_refl _) ?_; intro v242 w49 ho50 hb hg_ hnew_; clear hg_ hnew_; (first | rw [← Ny241.out] at ho50 | (simp only [Int.reduceToNat] at ho50; rw [← Ny241.out] at ho50)); have HO243 := Aside0.mk (Kd.R_lower (Kd.R_new' (Kd.R_new' (Kd.R_new' (Kd.R_new' (Kd.R_new' (Kd.R_new' ho50 (Kd.R_lt (by (with_reducible repeat (first | apply Kd.R_alloc | apply Kd.R_drewN | apply Kd.R_drew)); exact HO196.out))) (Kd.R_lt (by (with_reducible repeat (first | apply Kd.R_alloc | apply Kd.R_drewN | apply Kd.R_drew)); exact HO203.out))) (Kd.R_lt (by (with_reducible repeat (first | apply Kd.R_alloc | apply Kd.R_drewN | apply Kd.R_drew)); exact HO212.out))) (Kd.R_lt (by (with_reducible repeat (first | apply Kd.R_alloc | apply Kd.R_drewN | apply Kd.R_drew)); exact HO218.out))) (Kd.R_lt (by (with_reducible repeat (first | apply Kd.R_alloc | apply Kd.R_drewN | apply Kd.R_drew)); exact HO230.out))) (Kd.R_lt (by (with_reducible repeat (first | apply Kd.R_alloc | apply Kd.R_drewN | apply Kd.R_drew)); exact HO239.out))) (below_size (Cz.bl (w := w)))); replace HO196 := Aside0.mk (Kd.R_elder' Cz.rh (Kd.R_base ho50) hb); replace HO203 := Aside0.mk (Kd.R_elder' Cz.rh (Kd.R_base ho50) hb); replace HO212 := Aside0.mk (Kd.R_elder' Cz.rh (Kd.R_base ho50) hb); replace HO218 := Aside0.mk (Kd.R_elder' Cz.rh (Kd.R_base ho50) hb); replace HO230 := Aside0.mk (Kd.R_elder' Cz.rh (Kd.R_base ho50) hb); replace HO239 := Aside0.mk (Kd.R_elder' Cz.rh (Kd.R_base ho50) hb); replace BK193 := Cz.bk BK193 hb; replace BK209 := Cz.bk BK209 hb; replace BK224 := Cz.bk BK224 hb; replace BK236 := Cz.bk BK236 hb; replace HB := Cz.bs (w := w) hb; clear hb ho50; obtain ⟨Ao51, co51, eo51⟩ := Kd.R_slice HO243.out; subst eo51) | ((with_reducible refine gate_callee (f := 21) rfl ?_); refine Cz.gL (N := (some 49)) Try.func21 #[.slice Ao51 y241.length co51] ?_; (with_reducible refine (frame_Read.calls _ _ y241 t244 t245 t246 t247 t250 t251 t252 t253 t254 _ ?side1 ?side2 A7.out).mono ?_); (case side1 => repeat (first | exact (Kd.R_reads' HO243.out).2.2 | (with_reducible refine Kd.C_alloc ?_ _) | (with_reducible refine Kd.C_drewN ?_ _) | (with_reducible refine Kd.C_drew ?_))); (case side2 => exact (Kd.R_reads' HO243.out).2.1); rintro e w52 ⟨v248, rfl, ho0, hb⟩; refine ⟨_, rfl, ?_⟩; have HO249 := Aside0.mk (Kd.R_lower (Kd.R_new' (Kd.R_new' (Kd.R_new' (Kd.R_new' (Kd.R_new' (Kd.R_new' (Kd.R_new' ho0 (Kd.R_lt (by (with_reducible repeat (first | apply Kd.R_alloc | apply Kd.R_drewN | apply Kd.R_drew)); exact HO196.out))) (Kd.R_lt (by (with_reducible repeat (first | apply Kd.R_alloc | apply Kd.R_drewN | apply Kd.R_drew)); exact HO203.out))) (Kd.R_lt (by (with_reducible repeat (first | apply Kd.R_alloc | apply Kd.R_drewN | apply Kd.R_drew)); exact HO212.out))) (Kd.R_lt (by (with_reducible repeat (first | apply Kd.R_alloc | apply Kd.R_drewN | apply Kd.R_drew)); exact HO218.out))) (Kd.R_lt (by (with_reducible repeat (first | apply Kd.R_alloc | apply Kd.R_drewN | apply Kd.R_drew)); exact HO230.out))) (Kd.R_lt (by (with_reducible repeat (first | apply Kd.R_alloc | apply Kd.R_drewN | apply Kd.R_drew)); exact HO239.out))) (Kd.R_lt (by (with_reducible repeat (first | apply Kd.R_alloc | apply Kd.R_drewN | apply Kd.R_drew)); exact HO243.out))) (below_size (Cz.bl (w := w)))); replace HO196 := Aside0.mk (Kd.R_elder' Cz.rh (Kd.R_base ho0) hb); replace HO203 := Aside0.mk (Kd.R_elder' Cz.rh (Kd.R_base ho0) hb); replace HO212 := Aside0.mk (Kd.R_elder' Cz.rh (Kd.R_base ho0) hb); replace HO218 := Aside0.mk (Kd.R_elder' Cz.rh (Kd.R_base ho0) hb); replace HO230 := Aside0.mk (Kd.R_elder' Cz.rh (Kd.R_base ho0) hb); replace HO239 := Aside0.mk (Kd.R_elder' Cz.rh (Kd.R_base ho0) hb); replace HO243 := Aside0.mk (Kd.R_elder' Cz.rh (Kd.R_base ho0) hb); replace BK193 := Cz.bk BK193 hb; replace BK209 := Cz.bk BK209 hb; replace BK224 := Cz.bk BK224 hb; replace BK236 := Cz.bk BK236 hb; replace HB := Cz.bs (w := w) hb; (try clear hb); (try clear ho0)) | ((with_reducible refine gate_dst (N := 15) rfl ?_); refine Cz.bx (N := 15) #[.int .i64 0, .int .i64 0, .int .i64 0, .slice none 0 0, .int .i64 0, .int .i64 0, .int .i64 0] 38 ?_; intro gb255 hg w53 hbox hb; have BK255 := Aside0.mk (hbox); have GW255 := Aside0.mk ((Cz.gs hg : w.heap.size ≤ gb255)); have GE255 := GW255; have NB193_255 := Aside0.mk ((Cz.nl BK193 hg : gb193 ≠ gb255)); have NB255_193 := Aside0.mk ((Cz.nr BK193 hg : gb255 ≠ gb193)); have NB209_255 := Aside0.mk ((Cz.nl BK209 hg : gb209 ≠ gb255)); have NB255_209 := Aside0.mk ((Cz.nr BK209 hg : gb255 ≠ gb209)); have NB224_255 := Aside0.mk ((Cz.nl BK224 hg : gb224 ≠ gb255)); have NB255_224 := Aside0.mk ((Cz.nr BK224 hg : gb255 ≠ gb224)); have NB236_255 := Aside0.mk ((Cz.nl BK236 hg : gb236 ≠ gb255)); have NB255_236 := Aside0.mk ((Cz.nr BK236 hg : gb255 ≠ gb236)); replace HO196 := Cz.rb HO196 hb; replace HO203 := Cz.rb HO203 hb; replace HO212 := Cz.rb HO212 hb; replace HO218 := Cz.rb HO218 hb; replace HO230 := Cz.rb HO230 hb; replace HO239 := Cz.rb HO239 hb; replace HO243 := Cz.rb HO243 hb; replace HO249 := Cz.rb HO249 hb; replace BK193 := Cz.bk BK193 hb; replace BK209 := Cz.bk BK209 hb; replace BK224 := Cz.bk BK224 hb; replace BK236 := Cz.bk BK236 hb; replace HB := Cz.bs (w := w) hb; clear hb hbox hg; have hnb54 := NB255_193.out; have hnc54 := NB193_255.out; have hnb55 := NB255_209.out; have hnc55 := NB209_255.out; have hnb56 := NB255_224.out; have hnc56 := NB224_255.out; have hnb57 := NB255_236.out; have hnc57 := NB236_255.out; obtain ⟨z58_0, z58_1, z58_2, z58_3, z58_4, z58_5, z58_6, y58_0, y58_1, y58_2, y58_3, y58_4, y58_5, y58_6⟩ := Cz.d7 BK255; obtain ⟨Ao59, co59, eo59⟩ := Kd.R_slice HO249.out; subst eo59; obtain ⟨z60_0, z60_1, z60_2, z60_3, z60_4, z60_5, z60_6, y60_0, y60_1, y60_2, y60_3, y60_4, y60_5, y60_6⟩ := Cz.d7 BK193; obtain ⟨z61_0, z61_1, z61_2, z61_3, z61_4, z61_5, z61_6, y61_0, y61_1, y61_2, y61_3, y61_4, y61_5, y61_6⟩ := Cz.d7 BK209) | ((with_reducible refine gate_callee (f := 23) rfl ?_); refine Cz.gL (N := (some 58)) Try.func23 #[.agg #[.int .i64 3, .int .i64 3, .int .i64 5, .slice none 0 0, .int .i64 0, .int .i64 0, .int .i64 0], .agg #[.int .i64 t198, .int .i64 t199, .int .i64 t200, .slice Ao31 t201.length co31, .int .i64 t204, .int .i64 t205, .int .i64 t206]] ?_; (refine (waggonerref16_Same.calls 3 3 5 _ _ ([] : List Int) 0 0 0 t198 t199 t200 _ _ t201 t204 t205 t206 true _ ?side1 ?side2 ?side3 ?side4 A9.out).mono ?_); (case side1 => exact Kd.C_nil _ _); (case side2 => exact Nat.le_refl _); (case side3 => refine (Kd.R_reads' (e := 5) (base := w.heap.size) (ok := fun k_ => (((((((True ∧ some k_ ≠ (.slice Ao26 t194.length co26 : Value).ownBlock) ∧ some k_ ≠ (.slice Ao34 y210.length co34 : Value).ownBlock) ∧ some k_ ≠ (.slice Ao40 t216.length co40 : Value).ownBlock) ∧ some k_ ≠ (.slice Ao47 t228.length co47 : Value).ownBlock) ∧ some k_ ≠ (v238 : Value).ownBlock) ∧ some k_ ≠ (.slice Ao51 y241.length co51 : Value).ownBlock) ∧ some k_ ≠ (.slice Ao59 t247.length co59 : Value).ownBlock)) (n := t201.length) (c := co31) ?_).2.2; exact (by (with_reducible repeat (first | apply Kd.R_alloc | apply Kd.R_drewN | apply Kd.R_drew)); exact (Kd.R_mono (Cz.rf (Cz.rf (Cz.rf (Cz.rf (Cz.rf (Cz.rf (Cz.rf (Kd.R_types HO203.out BK255.out (by decide))))))))) (fun _ h_ => h_.1)))); (case side4 => exact (Kd.R_reads' HO203.out).2.1); rintro e w62 ⟨rfl, hb⟩; refine ⟨_, rfl, ?_⟩; replace HO196 := Aside0.mk (Kd.R_below (by (with_reducible repeat (first | apply Kd.R_alloc | apply Kd.R_drewN | apply Kd.R_drew)); exact (Kd.R_mono (Cz.rf (Cz.rf (Cz.rf (Cz.rf (Cz.rf (Cz.rf (Cz.rf (Kd.R_types HO196.out BK255.out (by decide))))))))) (fun _ h_ => h_.1))) hb); replace HO203 := Aside0.mk (Kd.R_below (by (with_reducible repeat (first | apply Kd.R_alloc | apply Kd.R_drewN | apply Kd.R_drew)); exact (Kd.R_mono (Cz.rf (Cz.rf (Cz.rf (Cz.rf (Cz.rf (Cz.rf (Cz.rf (Kd.R_types HO203.out BK255.out (by decide))))))))) (fun _ h_ => h_.1))) hb); replace HO212 := Aside0.mk (Kd.R_below (by (with_reducible repeat (first | apply Kd.R_alloc | apply Kd.R_drewN | apply Kd.R_drew)); exact (Kd.R_mono (Cz.rf (Cz.rf (Cz.rf (Cz.rf (Cz.rf (Cz.rf (Cz.rf (Kd.R_types HO212.out BK255.out (by decide))))))))) (fun _ h_ => h_.1))) hb); replace HO218 := Aside0.mk (Kd.R_below (by (with_reducible repeat (first | apply Kd.R_alloc | apply Kd.R_drewN | apply Kd.R_drew)); exact (Kd.R_mono (Cz.rf (Cz.rf (Cz.rf (Cz.rf (Cz.rf (Cz.rf (Cz.rf (Kd.R_types HO218.out BK255.out (by decide))))))))) (fun _ h_ => h_.1))) hb); replace HO230 := Aside0.mk (Kd.R_below (by (with_reducible repeat (first | apply Kd.R_alloc | apply Kd.R_drewN | apply Kd.R_drew)); exact (Kd.R_mono (Cz.rf (Cz.rf (Cz.rf (Cz.rf (Cz.rf (Cz.rf (Cz.rf (Kd.R_types HO230.out BK255.out (by decide))))))))) (fun _ h_ => h_.1))) hb); replace HO239 := Aside0.mk (Kd.R_below (by (with_reducible repeat (first | apply Kd.R_alloc | apply Kd.R_drewN | apply Kd.R_drew)); exact (Kd.R_mono (Cz.rf (Cz.rf (Cz.rf (Cz.rf (Cz.rf (Cz.rf (Cz.rf (Kd.R_types HO239.out BK255.out (by decide))))))))) (fun _ h_ => h_.1))) hb); replace HO243 := Aside0.mk (Kd.R_below (by (with_reducible repeat (first | apply Kd.R_alloc | apply Kd.R_drewN | apply Kd.R_drew)); exact (Kd.R_mono (Cz.rf (Cz.rf (Cz.rf (Cz.rf (Cz.rf (Cz.rf (Cz.rf (Kd.R_types HO243.out BK255.out (by decide))))))))) (fun _ h_ => h_.1))) hb); replace HO249 := Aside0.mk (Kd.R_below (by (with_reducible repeat (first | apply Kd.R_alloc | apply Kd.R_drewN | apply Kd.R_drew)); exact (Kd.R_mono (Cz.rf (Cz.rf (Cz.rf (Cz.rf (Cz.rf (Cz.rf (Cz.rf (Kd.R_types HO249.out BK255.out (by decide))))))))) (fun _ h_ => h_.1))) hb); replace BK193 := Aside0.mk (blk_below (g := gb193) (o := .cells #[.int .i64 3, .int .i64 3, .int .i64 5, .slice none 0 0, .int .i64 0, .int .i64 0, .int .i64 0] 38 (0, 0)) (by (with_reducible repeat (first | refine blk_drewN ?_ _ | refine blk_drew ?_ | refine blk_alloc ?_ _)); refine blk_far ?_ NB193_255.out _; refine blk_far ?_ NB193_255.out _; refine blk_far ?_ NB193_255.out _; refine blk_far ?_ NB193_255.out _; refine blk_far ?_ NB193_255.out _; refine blk_far ?_ NB193_255.out _; refine blk_far ?_ NB193_255.out _; (with_reducible repeat (first | refine blk_drewN ?_ _ | refine blk_drew ?_ | refine blk_alloc ?_ _)); exact BK193.out) hb); replace BK209 := Aside0.mk (blk_below (g := gb209) (o := .cells #[.int .i64 t198, .int .i64 t199, .int .i64 t200, .slice Ao31 t201.length co31, .int .i64 t204, .int .i64 t205, .int .i64 t206] 38 (0, 0)) (by (with_reducible repeat (first | refine blk_drewN ?_ _ | refine blk_drew ?_ | refine blk_alloc ?_ _)); refine blk_far ?_ NB209_255.out _; refine blk_far ?_ NB209_255.out _; refine blk_far ?_ NB209_255.out _; refine blk_far ?_ NB209_255.out _; refine blk_far ?_ NB209_255.out _; refine blk_far ?_ NB209_255.out _; refine blk_far ?_ NB209_255.out _; (with_reducible repeat (first | refine blk_drewN ?_ _ | refine blk_drew ?_ | refine blk_alloc ?_ _)); exact BK209.out) hb); replace BK224 := Aside0.mk (blk_below (g := gb224) (o := .cells #[.int .i64 t213, .int .i64 t214, .int .i64 t215, .slice Ao40 t216.length co40, .int .i64 t219, .int .i64 t220, .int .i64 t221] 38 (0, 0)) (by (with_reducible repeat (first | refine blk_drewN ?_ _ | refine blk_drew ?_ | refine blk_alloc ?_ _)); refine blk_far ?_ NB224_255.out _; refine blk_far ?_ NB224_255.out _; refine blk_far ?_ NB224_255.out _; refine blk_far ?_ NB224_255.out _; refine blk_far ?_ NB224_255.out _; refine blk_far ?_ NB224_255.out _; refine blk_far ?_ NB224_255.out _; (with_reducible repeat (first | refine blk_drewN ?_ _ | refine blk_drew ?_ | refine blk_alloc ?_ _)); exact BK224.out) hb); replace BK236 := Aside0.mk (blk_below (g := gb236) (o := .cells #[.int .i64 t225, .int .i64 t226, .int .i64 t227, .slice Ao47 t228.length co47, .int .i64 t231, .int .i64 t232, .int .i64 t233] 38 (0, 0)) (by (with_reducible repeat (first | refine blk_drewN ?_ _ | refine blk_drew ?_ | refine blk_alloc ?_ _)); refine blk_far ?_ NB236_255.out _; refine blk_far ?_ NB236_255.out _; refine blk_far ?_ NB236_255.out _; refine blk_far ?_ NB236_255.out _; refine blk_far ?_ NB236_255.out _; refine blk_far ?_ NB236_255.out _; refine blk_far ?_ NB236_255.out _; (with_reducible repeat (first | refine blk_drewN ?_ _ | refine blk_drew ?_ | refine blk_alloc ?_ _)); exact BK236.out) hb); replace BK255 := Aside0.mk (blk_below (g := gb255) (o := .cells #[.int .i64 t244, .int .i64 t245, .int .i64 t246, .slice Ao59 t247.length co59, .int .i64 t250, .int .i64 t251, .int .i64 t252] 38 (0, 0)) (by (with_reducible repeat (first | refine blk_drewN ?_ _ | refine blk_drew ?_ | refine blk_alloc ?_ _)); apply Cz.a7; (with_reducible repeat (first | refine blk_drewN ?_ _ | refine blk_drew ?_ | refine blk_alloc ?_ _)); exact BK255.out) hb); replace HB := Cz.bs (w := w) hb; (try clear hb); (try clear hk)))
              replace HO196 := Aside0.mk (Kd.R_drew HO196.out)
              replace HO203 := Aside0.mk (Kd.R_drew HO203.out)
              replace HO212 := Aside0.mk (Kd.R_drew HO212.out)
              replace HO218 := Aside0.mk (Kd.R_drew HO218.out)
              replace HO230 := Aside0.mk (Kd.R_drew HO230.out)
              replace HO239 := Aside0.mk (Kd.R_drew HO239.out)
              replace HO243 := Aside0.mk (Kd.R_drew HO243.out)
              replace HO249 := Aside0.mk (Kd.R_drew HO249.out)
              replace BK193 := Aside0.mk (blk_drew BK193.out)
              replace BK209 := Aside0.mk (blk_drew BK209.out)
              replace BK224 := Aside0.mk (blk_drew BK224.out)
              replace BK236 := Aside0.mk (blk_drew BK236.out)
              replace BK255 := Aside0.mk (blk_drew BK255.out)
              replace HB := Aside0.mk (below_drew1 HB.out)
              have q64 : (5 : Int) ≤ ((t194.length : Int) : Int) := of_decide_eq_true (by first | (with_reducible assumption) | assumption)
              obtain ⟨i064, hi064, _, hsz64, _⟩ := info_parts info5
              have hroom64 : t194.length ≤ co26 := (Kd.R_reads' HO196.out).2.1
              have hC64 : Kd.C (Kd.int .u8) _ Ao26 t194.length t194 := (Kd.R_reads' HO196.out).2.2
              have hcut64 := cut_to (P := Try.prog) 27 5 .i64 Try.underlying27 hi064 Ao26 t194.length co26 5 (by omega) q64 hroom64
              have hr64 := Kd.C_take (m := 5) hC64 (by omega)
              have hy64 : y257.length = (5 : Int).toNat := (by rw [Ny257.out, List.length_take]; omega)
              rw [← Ny257.out] at hr64
              rw [← hy64] at hcut64
              have HR260 := Aside0.mk hr64
              have HC260 := Aside0.mk (show y257.length ≤ co26 from by omega)
              clear hr64 hC64 hroom64 hi064 hsz64
              have KY64 := Aside0.mk hy64
              clear hy64
              have KL64 := Aside0.mk (show 5 ≤ t194.length from by omega)
              replace q64 := eq_true q64
              refine start_ (n := 47) (S := fun w' => w'.cell? ⟨gb193, 0, none⟩ = some (.int .i64 3) ∧ w'.cell? ⟨gb193, 1, none⟩ = some (.int .i64 3) ∧ w'.cell? ⟨gb193, 2, none⟩ = some (.int .i64 5) ∧ w'.cell? ⟨gb193, 3, none⟩ = some (.slice none 0 0) ∧ w'.cell? ⟨gb193, 4, none⟩ = some (.int .i64 0) ∧ w'.cell? ⟨gb193, 5, none⟩ = some (.int .i64 0) ∧ w'.cell? ⟨gb193, 6, none⟩ = some (.int .i64 0) ∧ (convert 27 9 (.slice Ao26 y257.length co26)).run Try.prog w' = .ok (.string (strOfNums y257)) w') (ds := []) #[false, false, false, false, false, false, false, false, false, false, false, false, false, false, false, false, false, false, false, false, false, false, false, false, false, false, false, false, false, false, false, false, false, false, false, false, false, false, false, false, false, false, false, false, false, false, false] (by kernel_rfl) rfl rfl ⟨(blk_cell BK193.out 0).trans rfl, (blk_cell BK193.out 1).trans rfl, (blk_cell BK193.out 2).trans rfl, (blk_cell BK193.out 3).trans rfl, (blk_cell BK193.out 4).trans rfl, (blk_cell BK193.out 5).trans rfl, (blk_cell BK193.out 6).trans rfl, (Kd.C_string (P := Try.prog) (A := Ao26) (c := co26) Try.underlying27 Try.underlying5 Try.underlying9 (by repeat (first | (with_reducible exact HR260.out) | (with_reducible refine Kd.C_alloc ?_ _) | (with_reducible refine Kd.C_drewN ?_ _) | (with_reducible refine Kd.C_drew ?_) | exact HR260.out)))⟩ (fun hHeld => ?_); refine with_tabW waggonerlaw16_awake_p.tab11 waggonerlaw16_awake_p.bits11 (fun HT_ HW_ => ?_)
              generalize w62.drew = w63 at HO196 HO203 HO212 HO218 HO230 HO239 HO243 HO249 BK193 BK209 BK224 BK236 BK255 HB HR260 hHeld ⊢
              refine Cz.qP 0 59 HT_ ?_
              refine Cz.qP 1 60 HT_ ?_
              refine Cz.qT 2 61 HT_ HW_ hHeld ?_
              refine Cz.qO (N := some 62) 3 HT_ (fun K hK => ?_)
              refine Kd.R_lit_step (Kd.int .u8) _ 5 ?hg (N := 62) ?hd (xs := ([3, 2, 0, 3, 5] : List Int)) (inner := [.int .u8 3, .int .u8 2, .int .u8 0, .int .u8 3, .int .u8 5]) (ok := fun _ => True) (okp := fun _ => True) ?hr ?hp (fun _ hk => hk) trivial (Below.refl _ _) (Nat.le_refl _) (by simp) ?_; (case hd => rfl); (case hg => rfl); (case hr => first | (go_simp; done) | (go_simp; rfl)); (case hp => exact (Reps.one (show Kd.M (Kd.int .u8) _ _ _ 3 [.int .u8 3] from rfl) (Reps.one (show Kd.M (Kd.int .u8) _ _ _ 2 [.int .u8 2] from rfl) (Reps.one (show Kd.M (Kd.int .u8) _ _ _ 0 [.int .u8 0] from rfl) (Reps.one (show Kd.M (Kd.int .u8) _ _ _ 3 [.int .u8 3] from rfl) (Reps.one (show Kd.M (Kd.int .u8) _ _ _ 5 [.int .u8 5] from rfl) (Reps.none _ _)))))))
              intro v262 w65 ho66 hb hg_ hnew_
              clear hg_ hnew_
              (first | rw [← Ny261.out] at ho66 | (simp only [Int.reduceToNat] at ho66; rw [← Ny261.out] at ho66))
              have HO263 := Aside0.mk (Kd.R_lower (Kd.R_new' (Kd.R_new' (Kd.R_new' (Kd.R_new' (Kd.R_new' (Kd.R_new' (Kd.R_new' (Kd.R_new' ho66 (Kd.R_lt (by (with_reducible repeat (first | apply Kd.R_alloc | apply Kd.R_drewN | apply Kd.R_drew)); exact HO196.out))) (Kd.R_lt (by (with_reducible repeat (first | apply Kd.R_alloc | apply Kd.R_drewN | apply Kd.R_drew)); exact HO203.out))) (Kd.R_lt (by (with_reducible repeat (first | apply Kd.R_alloc | apply Kd.R_drewN | apply Kd.R_drew)); exact HO212.out))) (Kd.R_lt (by (with_reducible repeat (first | apply Kd.R_alloc | apply Kd.R_drewN | apply Kd.R_drew)); exact HO218.out))) (Kd.R_lt (by (with_reducible repeat (first | apply Kd.R_alloc | apply Kd.R_drewN | apply Kd.R_drew)); exact HO230.out))) (Kd.R_lt (by (with_reducible repeat (first | apply Kd.R_alloc | apply Kd.R_drewN | apply Kd.R_drew)); exact HO239.out))) (Kd.R_lt (by (with_reducible repeat (first | apply Kd.R_alloc | apply Kd.R_drewN | apply Kd.R_drew)); exact HO243.out))) (Kd.R_lt (by (with_reducible repeat (first | apply Kd.R_alloc | apply Kd.R_drewN | apply Kd.R_drew)); exact HO249.out))) (below_size (Cz.bl (w := w))))
              replace HO196 := Aside0.mk (Kd.R_elder' Cz.rh (Kd.R_base ho66) hb)
              replace HO203 := Aside0.mk (Kd.R_elder' Cz.rh (Kd.R_base ho66) hb)
              replace HO212 := Aside0.mk (Kd.R_elder' Cz.rh (Kd.R_base ho66) hb)
              replace HO218 := Aside0.mk (Kd.R_elder' Cz.rh (Kd.R_base ho66) hb)
              replace HO230 := Aside0.mk (Kd.R_elder' Cz.rh (Kd.R_base ho66) hb)
              replace HO239 := Aside0.mk (Kd.R_elder' Cz.rh (Kd.R_base ho66) hb)
              replace HO243 := Aside0.mk (Kd.R_elder' Cz.rh (Kd.R_base ho66) hb)
              replace HO249 := Aside0.mk (Kd.R_elder' Cz.rh (Kd.R_base ho66) hb)
              replace BK193 := Cz.bk BK193 hb
              replace BK209 := Cz.bk BK209 hb
              replace BK224 := Cz.bk BK224 hb
              replace BK236 := Cz.bk BK236 hb
              replace BK255 := Cz.bk BK255 hb
              replace HR260 := Aside0.mk (Kd.C_below (by repeat (first | (with_reducible exact HR260.out) | (with_reducible refine Kd.C_alloc ?_ _) | (with_reducible refine Kd.C_drewN ?_ _) | (with_reducible refine Kd.C_drew ?_) | exact HR260.out)) hb)
              replace HB := Cz.bs (w := w) hb
              clear hb ho66
              refine hK.out _ _ ⟨(blk_cell BK193.out 0).trans rfl, (blk_cell BK193.out 1).trans rfl, (blk_cell BK193.out 2).trans rfl, (blk_cell BK193.out 3).trans rfl, (blk_cell BK193.out 4).trans rfl, (blk_cell BK193.out 5).trans rfl, (blk_cell BK193.out 6).trans rfl, (Kd.C_string (P := Try.prog) (A := Ao26) (c := co26) Try.underlying27 Try.underlying5 Try.underlying9 (by repeat (first | (with_reducible exact HR260.out) | (with_reducible refine Kd.C_alloc ?_ _) | (with_reducible refine Kd.C_drewN ?_ _) | (with_reducible refine Kd.C_drew ?_) | exact HR260.out)))⟩ (fun hHeld => ?_)
              clear hK K
              refine norm_ (a' := ?_) ?_ ?_
              rotate_left
              ·show Act.put _ (some 62) _ = _
               simp only [Act.put, Kx.sb, Kx.sz, Kx.ss, i64_w, i32_w]
               rfl
              refine Cz.qO (N := some 63) 4 HT_ (fun K hK => ?_)
              have hcv67 := own_string (P := Try.prog) Try.underlying27 Try.underlying5 Try.underlying9 (Kd.own_of_R HO263.out)
              refine value_ (w1 := ?_) (v := ?_) (by rfl) rfl ?_ ?_
              rotate_left 2
              ·go_simp
               constructor
               ·rfl
               ·rfl
              clear hcv67
              refine hK.out _ _ ⟨(blk_cell BK193.out 0).trans rfl, (blk_cell BK193.out 1).trans rfl, (blk_cell BK193.out 2).trans rfl, (blk_cell BK193.out 3).trans rfl, (blk_cell BK193.out 4).trans rfl, (blk_cell BK193.out 5).trans rfl, (blk_cell BK193.out 6).trans rfl, (Kd.C_string (P := Try.prog) (A := Ao26) (c := co26) Try.underlying27 Try.underlying5 Try.underlying9 (by repeat (first | (with_reducible exact HR260.out) | (with_reducible refine Kd.C_alloc ?_ _) | (with_reducible refine Kd.C_drewN ?_ _) | (with_reducible refine Kd.C_drew ?_) | exact HR260.out)))⟩ (fun hHeld => ?_)
              clear hK K
              refine norm_ (a' := ?_) ?_ ?_
              rotate_left
              ·show Act.put _ (some 63) _ = _
               simp only [Act.put, Kx.sb, Kx.sz, Kx.ss, i64_w, i32_w]
               rfl
              refine Cz.qP 5 64 HT_ ?_
              refine Cz.qP 6 65 HT_ ?_
              refine Cz.qP 7 66 HT_ ?_
              refine Cz.qP 8 67 HT_ ?_
              refine Cz.qP 9 68 HT_ ?_
              refine Cz.qP 10 69 HT_ ?_
              refine Cz.qP 11 70 HT_ ?_
              refine Cz.qP 12 71 HT_ ?_
              refine Cz.qP 13 72 HT_ ?_
              refine Cz.qP 14 73 HT_ ?_
              refine Cz.qP 15 74 HT_ ?_
              refine Cz.qP 16 75 HT_ ?_
              refine Cz.qP 17 76 HT_ ?_
              refine Cz.qP 18 77 HT_ ?_
              refine Cz.qP 19 78 HT_ ?_
              refine Cz.qP 20 79 HT_ ?_
              refine Cz.qP 21 80 HT_ ?_
              refine Cz.qP 22 81 HT_ ?_
              refine Cz.qP 23 82 HT_ ?_
              refine Cz.qP 24 83 HT_ ?_
              refine Cz.qP 25 84 HT_ ?_
              refine Cz.qP 26 85 HT_ ?_
              refine Cz.qP 27 86 HT_ ?_
              refine Cz.qP 28 87 HT_ ?_
              refine Cz.qP 29 88 HT_ ?_
              refine Cz.qP 30 89 HT_ ?_
              refine Cz.qP 31 90 HT_ ?_
              refine Cz.qP 32 91 HT_ ?_
              refine Cz.qP 33 92 HT_ ?_
              refine Cz.qP 34 93 HT_ ?_
              refine Cz.qP 35 94 HT_ ?_
              refine Cz.qP 36 95 HT_ ?_
              refine Cz.qP 37 96 HT_ ?_
              refine Cz.qT 38 97 HT_ HW_ hHeld ?_
              refine Cz.qO (N := some 98) 39 HT_ (fun K hK => ?_)
              refine Cz.gO Try.func24 #[.agg #[.int .i64 3, .int .i64 3, .int .i64 5, .slice none 0 0, .int .i64 0, .int .i64 0, .int .i64 0]] ?_
              refine (frame_Check.calls 3 3 5 _ _ ([] : List Int) 0 0 0 true _ ?side1 ?side2 A20.out).mono ?_
              (case side1 => exact Kd.C_nil _ _)
              (case side2 => exact Nat.le_refl _)
              rintro e w68 ⟨rfl, hb⟩
              refine ⟨_, rfl, ?_⟩
              replace HO196 := Cz.rb HO196 hb
              replace HO203 := Cz.rb HO203 hb
              replace HO212 := Cz.rb HO212 hb
              replace HO218 := Cz.rb HO218 hb
              replace HO230 := Cz.rb HO230 hb
              replace HO239 := Cz.rb HO239 hb
              replace HO243 := Cz.rb HO243 hb
              replace HO249 := Cz.rb HO249 hb
              replace HO263 := Cz.rb HO263 hb
              replace BK193 := Cz.bk BK193 hb
              replace BK209 := Cz.bk BK209 hb
              replace BK224 := Cz.bk BK224 hb
              replace BK236 := Cz.bk BK236 hb
              replace BK255 := Cz.bk BK255 hb
              replace HR260 := Aside0.mk (Kd.C_below (by repeat (first | (with_reducible exact HR260.out) | (with_reducible refine Kd.C_alloc ?_ _) | (with_reducible refine Kd.C_drewN ?_ _) | (with_reducible refine Kd.C_drew ?_) | exact HR260.out)) hb)
              replace HB := Cz.bs (w := w) hb
              (try clear hb)
              (try clear hb2)
              (try clear hk)
              (try clear hi)
              refine hK.out _ _ ⟨(blk_cell BK193.out 0).trans rfl, (blk_cell BK193.out 1).trans rfl, (blk_cell BK193.out 2).trans rfl, (blk_cell BK193.out 3).trans rfl, (blk_cell BK193.out 4).trans rfl, (blk_cell BK193.out 5).trans rfl, (blk_cell BK193.out 6).trans rfl, (Kd.C_string (P := Try.prog) (A := Ao26) (c := co26) Try.underlying27 Try.underlying5 Try.underlying9 (by repeat (first | (with_reducible exact HR260.out) | (with_reducible refine Kd.C_alloc ?_ _) | (with_reducible refine Kd.C_drewN ?_ _) | (with_reducible refine Kd.C_drew ?_) | exact HR260.out)))⟩ (fun hHeld => ?_)
              clear hK K
              refine norm_ (a' := ?_) ?_ ?_
              rotate_left
              ·show Act.put _ (some 98) _ = _
               simp only [Act.put, Kx.sb, Kx.sz, Kx.ss, i64_w, i32_w]
               rfl
              refine Cz.qP 40 99 HT_ ?_
              refine Cz.qP 41 100 HT_ ?_
              refine Cz.qP 42 101 HT_ ?_
              refine Cz.qO (N := some 102) 43 HT_ (fun K hK => ?_)
              refine Cz.gO Try.func24 #[.agg #[.int .i64 6, .int .i64 0, .int .i64 0, .slice none 0 0, .int .i64 0, .int .i64 0, .int .i64 0]] ?_
              refine (frame_Check.calls 6 0 0 _ _ ([] : List Int) 0 0 0 t265 _ ?side1 ?side2 A22.out).mono ?_
              (case side1 => exact Kd.C_nil _ _)
              (case side2 => exact Nat.le_refl _)
              rintro e w69 ⟨rfl, hb⟩
              refine ⟨_, rfl, ?_⟩
              replace HO196 := Cz.rb HO196 hb
              replace HO203 := Cz.rb HO203 hb
              replace HO212 := Cz.rb HO212 hb
              replace HO218 := Cz.rb HO218 hb
              replace HO230 := Cz.rb HO230 hb
              replace HO239 := Cz.rb HO239 hb
              replace HO243 := Cz.rb HO243 hb
              replace HO249 := Cz.rb HO249 hb
              replace HO263 := Cz.rb HO263 hb
              replace BK193 := Cz.bk BK193 hb
              replace BK209 := Cz.bk BK209 hb
              replace BK224 := Cz.bk BK224 hb
              replace BK236 := Cz.bk BK236 hb
              replace BK255 := Cz.bk BK255 hb
              replace HR260 := Aside0.mk (Kd.C_below (by repeat (first | (with_reducible exact HR260.out) | (with_reducible refine Kd.C_alloc ?_ _) | (with_reducible refine Kd.C_drewN ?_ _) | (with_reducible refine Kd.C_drew ?_) | exact HR260.out)) hb)
              replace HB := Cz.bs (w := w) hb
              (try clear hb)
              (try clear hb2)
              (try clear hk)
              (try clear hi)
              refine hK.out _ _ ⟨(blk_cell BK193.out 0).trans rfl, (blk_cell BK193.out 1).trans rfl, (blk_cell BK193.out 2).trans rfl, (blk_cell BK193.out 3).trans rfl, (blk_cell BK193.out 4).trans rfl, (blk_cell BK193.out 5).trans rfl, (blk_cell BK193.out 6).trans rfl, (Kd.C_string (P := Try.prog) (A := Ao26) (c := co26) Try.underlying27 Try.underlying5 Try.underlying9 (by repeat (first | (with_reducible exact HR260.out) | (with_reducible refine Kd.C_alloc ?_ _) | (with_reducible refine Kd.C_drewN ?_ _) | (with_reducible refine Kd.C_drew ?_) | exact HR260.out)))⟩ (fun hHeld => ?_)
              clear hK K
              refine norm_ (a' := ?_) ?_ ?_
              rotate_left
              ·show Act.put _ (some 102) _ = _
               simp only [Act.put, Kx.sb, Kx.sz, Kx.ss, i64_w, i32_w]
               rfl
              refine Cz.qP 44 103 HT_ ?_
              refine Cz.qP 45 104 HT_ ?_
              refine Cz.qP 46 0 HT_ ?_
              refine done_ (done_of HT_.out (by kernel_rfl)) ?_
              try go_wp2
              go_ret
              exact ⟨by first | rfl | (exact congrArg (fun z_ => Ending.returned (Value.bool z_)) HRT.out) | (rw [HRT.out]; done) | (simp [errW_none, errW_some] <;> rfl) | (simp [*, errW_none, errW_some] <;> rfl), Cz.bl (w := w)⟩
             ·replace c21 := Bool.eq_false_iff.mpr c21
              subst c21
              have H1 : (some false) = some true := by rw [if_neg (show ¬ (false = true) by decide)] at H <;> exact H
              exact absurd H1 (by simp)
            ·rw [if_neg c19] at H
             first | exact absurd H (by simp; done) | skip
           ·rw [if_neg c18] at H
            first | exact absurd H (by simp; done) | skip
          ·rw [if_neg c17] at H
           first | exact absurd H (by simp; done) | skip
         ·rw [if_neg c16] at H
          first | exact absurd H (by simp; done) | skip
        ·rw [if_neg c15] at H
         first | exact absurd H (by simp; done) | skip
       ·rw [if_neg c14] at H
        first | exact absurd H (by simp; done) | skip
      ·replace c13 := Bool.eq_false_iff.mpr c13
       subst c13
       have H1 : (some false) = some true := by rw [if_neg (show ¬ (false = true) by decide)] at H <;> exact H
       exact absurd H1 (by simp)
     ·rw [if_neg c12] at H
      first | exact absurd H (by simp; done) | skip
    ·rw [if_neg c11] at H
     first | exact absurd H (by simp; done) | skip
   ·rw [if_neg c10] at H
    exact absurd H (by simp)
  ·rw [if_neg c8] at H
   first | exact absurd H (by simp; done) | skip
 ·rw [if_neg c6] at H
  exact absurd H (by simp)
end Go.Proofs.Ytohkmmbmfhficaa.PT
