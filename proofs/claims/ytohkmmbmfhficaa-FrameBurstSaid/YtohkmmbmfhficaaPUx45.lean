/- Functions of the program as Lean functions, and that the Go code comes to just their answers: no condition but that the function says so. (Written by a program of this workplace over the kit's print, with contracts by hand.) -/
import Derived.Test.YtohkmmbmfhficaaCz
import Derived.Test.YtohkmmbmfhficaaPUx11
import Derived.Test.YtohkmmbmfhficaaPUx29
import Derived.Test.YtohkmmbmfhficaaPUx38
import Derived.Test.YtohkmmbmfhficaaPUx42
import Derived.Test.YtohkmmbmfhficaaPUx44
namespace Go.Proofs.Ytohkmmbmfhficaa.PU
open Go.Proofs.Ytohkmmbmfhficaa Go.RowKit Go.Proofs.YtohkmmbmfhficaaW.PrintWords Go.Proofs.YtohkmmbmfhficaaW.PrintLast Go.Proofs.YtohkmmbmfhficaaW.PrintMore
attribute [local go_sem] max2_int min2_int max_two min_two max_three min_three max_four min_four   -- for this text's walks alone
set_option linter.unusedVariables false
set_option linter.unusedSimpArgs false

/-! ### waggonerlaw16_awake_p: function 18 -/
def waggonerlaw16_awake_p.f  : Option (Bool) := (frame_Write.f 3 3 5 ([] : List Int) 0 0 0).bind fun bt194 => ((frame_Read.f bt194.1).bind fun bt198 => ((frame_Read.f (([3, 2, 0, 3, 5, 0, 0, 0] : List Int))).bind fun bt213 => ((frame_Read.f ([] : List Int)).bind fun bt225 => ((frame_Write.f 0 0 0 ([] : List Int) 0 0 0).bind fun bt237 => (if 9 ≤ 281474976710656 then ((frame_Read.f (List.replicate 9 0)).bind fun bt244 => (if (bt194.1.length : Int) = 9 then ((waggonerref16_Same.f 3 3 5 ([] : List Int) 0 0 0 bt198.1 bt198.2.1 bt198.2.2.1 bt198.2.2.2.1 bt198.2.2.2.2.1 bt198.2.2.2.2.2.1 bt198.2.2.2.2.2.2.1).bind fun t256 => (if 5 ≤ (bt194.1.length : Int) then (if (strOfNums (bt194.1.take 5)).toList = (strOfNums (([3, 2, 0, 3, 5] : List Int))).toList then (if bt194.2 = 0 then (if t256 = true then (if bt198.2.2.2.2.2.2.2.1 = 9 then (if bt198.2.2.2.2.2.2.2.2 = 0 then (if bt213.2.2.2.2.2.2.2.2 = 161 then (if bt225.2.2.2.2.2.2.2.2 = 161 then (if bt237.2 = 160 then (if bt244.2.2.2.2.2.2.2.2 = 160 then ((frame_Check.f 3 3 5 ([] : List Int) 0 0 0).bind fun t264 => (if t264 = true then ((frame_Check.f 6 0 0 ([] : List Int) 0 0 0).bind fun t265 => (some (!t265))) else (some false))) else (some false)) else (some false)) else (some false)) else (some false)) else (some false)) else (some false)) else (some false)) else (some false)) else (some false)) else (none))) else (some false))) else (none))))))
def waggonerlaw16_awake_p.T11 : Bool × List (List Nat × List Nat) := (true, [([], []), ([0], [0]), ([1], [1]), ([], []), ([3], [3]), ([2, 4], [2, 4]), ([5], [5]), ([6], [6]), ([7, 6], [6, 7]), ([6, 8], [6, 8]), ([9, 6], [9]), ([10], [10]), ([10, 11], [10, 11]), ([12, 10], [12]), ([13], [13]), ([14, 13], [13, 14]), ([13, 15], [13, 15]), ([16, 13], [16]), ([17], [17]), ([18, 17], [17, 18]), ([17, 19], [17, 19]), ([20, 17], [20]), ([21], [21]), ([22, 21], [21, 22]), ([21, 23], [21, 23]), ([24, 21], [24]), ([25], [25]), ([26, 25], [25, 26]), ([25, 27], [25, 27]), ([28, 25], [28]), ([29], [29]), ([30, 29], [29, 30]), ([29, 31], [29, 31]), ([32, 29], [32]), ([33], [33]), ([34, 33], [33, 34]), ([33, 35], [33, 35]), ([36, 33], [36]), ([37], [37]), ([38, 37, 37], [37, 38]), ([37, 39], [37, 39]), ([40, 39], [40]), ([41], [41]), ([42, 41, 41], [41, 42]), ([43, 41], [41, 43]), ([41, 44], [41, 44]), ([45, 43, 0, 1, 2, 3, 4, 5, 6, 7, 8, 9, 10, 11, 12, 13, 14, 15, 16, 17, 18, 19, 20, 21, 22, 23, 24, 25, 26, 27, 28, 29, 30, 31, 32, 33, 34, 35, 36, 37, 38, 39, 40, 41, 42, 43, 44, 45], [45])])
def waggonerlaw16_awake_p.B11 : List Nat := [0, 1, 3, 0, 8, 31, 63, 127, 255, 511, 1023, 2047, 4095, 8191, 16383, 32767, 65535, 131071, 262143, 524287, 1048575, 2097151, 4194303, 8388607, 16777215, 33554431, 67108863, 134217727, 268435455, 536870911, 1073741823, 2147483647, 4294967295, 8589934591, 17179869183, 34359738367, 68719476735, 137438953471, 274877906943, 549755813887, 1099511627775, 2199023255551, 4398046511103, 8796093022207, 17592186044415, 35184372088831, 70368744177663]
theorem waggonerlaw16_awake_p.tab11 : rtab .any (opsOf Try.f18 11) = waggonerlaw16_awake_p.T11 := by kernel_rfl
theorem waggonerlaw16_awake_p.bits11 : waitsOk waggonerlaw16_awake_p.T11.2 waggonerlaw16_awake_p.B11 = true := by kernel_rfl
set_option maxHeartbeats 8000000 in
set_option maxRecDepth 100000 in
theorem waggonerlaw16_awake_p.calls  (r : Bool) (hT : r = true) (w : World) (h : waggonerlaw16_awake_p.f  = some r) :
  Calls Try.prog 18 #[] w fun e w' => e = .returned (.bool r) ∧ Below w.heap.size w w' := by
 subst hT
 have hu38 := Try.underlying38
 have HB := Aside0.mk (Below.refl w.heap.size w)
 have H : ((frame_Write.f 3 3 5 ([] : List Int) 0 0 0).bind fun bt194 => ((frame_Read.f bt194.1).bind fun bt198 => ((frame_Read.f (([3, 2, 0, 3, 5, 0, 0, 0] : List Int))).bind fun bt213 => ((frame_Read.f ([] : List Int)).bind fun bt225 => ((frame_Write.f 0 0 0 ([] : List Int) 0 0 0).bind fun bt237 => (if 9 ≤ 281474976710656 then ((frame_Read.f (List.replicate 9 0)).bind fun bt244 => (if (bt194.1.length : Int) = 9 then ((waggonerref16_Same.f 3 3 5 ([] : List Int) 0 0 0 bt198.1 bt198.2.1 bt198.2.2.1 bt198.2.2.2.1 bt198.2.2.2.2.1 bt198.2.2.2.2.2.1 bt198.2.2.2.2.2.2.1).bind fun t256 => (if 5 ≤ (bt194.1.length : Int) then (if (strOfNums (bt194.1.take 5)).toList = (strOfNums (([3, 2, 0, 3, 5] : List Int))).toList then (if bt194.2 = 0 then (if t256 = true then (if bt198.2.2.2.2.2.2.2.1 = 9 then (if bt198.2.2.2.2.2.2.2.2 = 0 then (if bt213.2.2.2.2.2.2.2.2 = 161 then (if bt225.2.2.2.2.2.2.2.2 = 161 then (if bt237.2 = 160 then (if bt244.2.2.2.2.2.2.2.2 = 160 then ((frame_Check.f 3 3 5 ([] : List Int) 0 0 0).bind fun t264 => (if t264 = true then ((frame_Check.f 6 0 0 ([] : List Int) 0 0 0).bind fun t265 => (some (!t265))) else (some false))) else (some false)) else (some false)) else (some false)) else (some false)) else (some false)) else (some false)) else (some false)) else (some false)) else (some false)) else (none))) else (some false))) else (none))))))) = some true := h
 clear h
 replace H := Option.bind_eq_some_iff.mp H
 obtain ⟨⟨t194, t197⟩, A10, H⟩ := H
 (try dsimp only at H)
 have A1 := Aside0.mk A10
 clear A10
 replace H := Option.bind_eq_some_iff.mp H
 obtain ⟨⟨t198, t199, t200, t201, t204, t205, t206, t207, t208⟩, A20, H⟩ := H
 (try dsimp only at H)
 have A2 := Aside0.mk A20
 clear A20
 obtain ⟨y210, hy210⟩ : ∃ y_ : List Int, y_ = (([3, 2, 0, 3, 5, 0, 0, 0] : List Int)) := ⟨_, rfl⟩
 replace H : ((frame_Read.f y210).bind fun bt213 => ((frame_Read.f ([] : List Int)).bind fun bt225 => ((frame_Write.f 0 0 0 ([] : List Int) 0 0 0).bind fun bt237 => (if 9 ≤ 281474976710656 then ((frame_Read.f (List.replicate 9 0)).bind fun bt244 => (if (t194.length : Int) = 9 then ((waggonerref16_Same.f 3 3 5 ([] : List Int) 0 0 0 t198 t199 t200 t201 t204 t205 t206).bind fun t256 => (if 5 ≤ (t194.length : Int) then (if (strOfNums (t194.take 5)).toList = (strOfNums (([3, 2, 0, 3, 5] : List Int))).toList then (if t197 = 0 then (if t256 = true then (if t207 = 9 then (if t208 = 0 then (if bt213.2.2.2.2.2.2.2.2 = 161 then (if bt225.2.2.2.2.2.2.2.2 = 161 then (if bt237.2 = 160 then (if bt244.2.2.2.2.2.2.2.2 = 160 then ((frame_Check.f 3 3 5 ([] : List Int) 0 0 0).bind fun t264 => (if t264 = true then ((frame_Check.f 6 0 0 ([] : List Int) 0 0 0).bind fun t265 => (some (!t265))) else (some false))) else (some false)) else (some false)) else (some false)) else (some false)) else (some false)) else (some false)) else (some false)) else (some false)) else (some false)) else (none))) else (some false))) else (none))))) = some true := by first | (rw [hy210]; with_reducible exact H) | (have H2_ := (Option.bind_some _ _).symm.trans H; rw [hy210]; with_reducible exact H2_) | (have H2_ := (Option.bind_some _ _).symm.trans H; with_reducible exact H2_) | with_reducible exact H | (rw [hy210]; exact H) | exact H
 have Ny210 := Aside0.mk hy210
 clear hy210
 replace H := Option.bind_eq_some_iff.mp H
 obtain ⟨⟨t213, t214, t215, t216, t219, t220, t221, t222, t223⟩, A30, H⟩ := H
 (try dsimp only at H)
 have A3 := Aside0.mk A30
 clear A30
 replace H := Option.bind_eq_some_iff.mp H
 obtain ⟨⟨t225, t226, t227, t228, t231, t232, t233, t234, t235⟩, A40, H⟩ := H
 (try dsimp only at H)
 have A4 := Aside0.mk A40
 clear A40
 replace H := Option.bind_eq_some_iff.mp H
 obtain ⟨⟨t237, t240⟩, A50, H⟩ := H
 (try dsimp only at H)
 have A5 := Aside0.mk A50
 clear A50
 by_cases c6 : 9 ≤ 281474976710656
 ·rw [if_pos c6] at H
  have c6b0 := eq_true c6
  have c6b1 : decide (9 ≤ 281474976710656) = true := decide_eq_true c6
  clear c6
  obtain ⟨y241, hy241⟩ : ∃ y_ : List Int, y_ = (List.replicate 9 0) := ⟨_, rfl⟩
  replace H : ((frame_Read.f y241).bind fun bt244 => (if (t194.length : Int) = 9 then ((waggonerref16_Same.f 3 3 5 ([] : List Int) 0 0 0 t198 t199 t200 t201 t204 t205 t206).bind fun t256 => (if 5 ≤ (t194.length : Int) then (if (strOfNums (t194.take 5)).toList = (strOfNums (([3, 2, 0, 3, 5] : List Int))).toList then (if t197 = 0 then (if t256 = true then (if t207 = 9 then (if t208 = 0 then (if t223 = 161 then (if t235 = 161 then (if t240 = 160 then (if bt244.2.2.2.2.2.2.2.2 = 160 then ((frame_Check.f 3 3 5 ([] : List Int) 0 0 0).bind fun t264 => (if t264 = true then ((frame_Check.f 6 0 0 ([] : List Int) 0 0 0).bind fun t265 => (some (!t265))) else (some false))) else (some false)) else (some false)) else (some false)) else (some false)) else (some false)) else (some false)) else (some false)) else (some false)) else (some false)) else (none))) else (some false))) = some true := by first | (rw [hy241]; with_reducible exact H) | (have H2_ := (Option.bind_some _ _).symm.trans H; rw [hy241]; with_reducible exact H2_) | (have H2_ := (Option.bind_some _ _).symm.trans H; with_reducible exact H2_) | with_reducible exact H | (rw [hy241]; exact H) | exact H
  have Ny241 := Aside0.mk hy241
  clear hy241
  replace H := Option.bind_eq_some_iff.mp H
  obtain ⟨⟨t244, t245, t246, t247, t250, t251, t252, t253, t254⟩, A70, H⟩ := H
  (try dsimp only at H)
  have A7 := Aside0.mk A70
  clear A70
  by_cases c8 : (t194.length : Int) = 9
  ·rw [if_pos c8] at H
   have c8b0 : ((t194.length : Int) == 9) = true := beq_iff_eq.mpr c8
   have c8b1 : ((t194.length : Int) != 9) = false := bne_eq_false_iff_eq.mpr c8
   clear c8
   replace H := Option.bind_eq_some_iff.mp H
   obtain ⟨t256, A90, H⟩ := H
   (try dsimp only at H)
   have A9 := Aside0.mk A90
   clear A90
   by_cases c10 : 5 ≤ (t194.length : Int)
   ·rw [if_pos c10] at H
    have c10b0 := eq_true c10
    have c10b1 : decide (5 ≤ (t194.length : Int)) = true := decide_eq_true c10
    clear c10
    obtain ⟨y257, hy257⟩ : ∃ y_ : List Int, y_ = (t194.take 5) := ⟨_, rfl⟩
    replace H : (if (strOfNums y257).toList = (strOfNums (([3, 2, 0, 3, 5] : List Int))).toList then (if t197 = 0 then (if t256 = true then (if t207 = 9 then (if t208 = 0 then (if t223 = 161 then (if t235 = 161 then (if t240 = 160 then (if t254 = 160 then ((frame_Check.f 3 3 5 ([] : List Int) 0 0 0).bind fun t264 => (if t264 = true then ((frame_Check.f 6 0 0 ([] : List Int) 0 0 0).bind fun t265 => (some (!t265))) else (some false))) else (some false)) else (some false)) else (some false)) else (some false)) else (some false)) else (some false)) else (some false)) else (some false)) else (some false)) = some true := by first | (rw [hy257]; with_reducible exact H) | (have H2_ := (Option.bind_some _ _).symm.trans H; rw [hy257]; with_reducible exact H2_) | (have H2_ := (Option.bind_some _ _).symm.trans H; with_reducible exact H2_) | with_reducible exact H | (rw [hy257]; exact H) | exact H
    have Ny257 := Aside0.mk hy257
    clear hy257
    obtain ⟨y261, hy261⟩ : ∃ y_ : List Int, y_ = (([3, 2, 0, 3, 5] : List Int)) := ⟨_, rfl⟩
    replace H : (if (strOfNums y257).toList = (strOfNums y261).toList then (if t197 = 0 then (if t256 = true then (if t207 = 9 then (if t208 = 0 then (if t223 = 161 then (if t235 = 161 then (if t240 = 160 then (if t254 = 160 then ((frame_Check.f 3 3 5 ([] : List Int) 0 0 0).bind fun t264 => (if t264 = true then ((frame_Check.f 6 0 0 ([] : List Int) 0 0 0).bind fun t265 => (some (!t265))) else (some false))) else (some false)) else (some false)) else (some false)) else (some false)) else (some false)) else (some false)) else (some false)) else (some false)) else (some false)) = some true := by first | (rw [hy261]; with_reducible exact H) | (have H2_ := (Option.bind_some _ _).symm.trans H; rw [hy261]; with_reducible exact H2_) | (have H2_ := (Option.bind_some _ _).symm.trans H; with_reducible exact H2_) | with_reducible exact H | (rw [hy261]; exact H) | exact H
    have Ny261 := Aside0.mk hy261
    clear hy261
    by_cases c11 : (strOfNums y257).toList = (strOfNums y261).toList
    ·rw [if_pos c11] at H
     have c11b0 : ((strOfNums y257).toList == (strOfNums y261).toList) = true := beq_iff_eq.mpr c11
     have c11b1 : ((strOfNums y257).toList != (strOfNums y261).toList) = false := bne_eq_false_iff_eq.mpr c11
     clear c11
     by_cases c12 : t197 = 0
     ·rw [if_pos c12] at H
      have c12b0 : (t197 == 0) = true := beq_iff_eq.mpr c12
      have c12b1 : (t197 != 0) = false := bne_eq_false_iff_eq.mpr c12
      clear c12
      by_cases c13 : t256 = true
      ·subst c13
       rw [if_pos rfl] at H
       by_cases c14 : t207 = 9
       ·rw [if_pos c14] at H
        have c14b0 : (t207 == 9) = true := beq_iff_eq.mpr c14
        have c14b1 : (t207 != 9) = false := bne_eq_false_iff_eq.mpr c14
        clear c14
        by_cases c15 : t208 = 0
        ·rw [if_pos c15] at H
         have c15b0 : (t208 == 0) = true := beq_iff_eq.mpr c15
         have c15b1 : (t208 != 0) = false := bne_eq_false_iff_eq.mpr c15
         clear c15
         by_cases c16 : t223 = 161
         ·rw [if_pos c16] at H
          have c16b0 : (t223 == 161) = true := beq_iff_eq.mpr c16
          have c16b1 : (t223 != 161) = false := bne_eq_false_iff_eq.mpr c16
          clear c16
          by_cases c17 : t235 = 161
          ·rw [if_pos c17] at H
           have c17b0 : (t235 == 161) = true := beq_iff_eq.mpr c17
           have c17b1 : (t235 != 161) = false := bne_eq_false_iff_eq.mpr c17
           clear c17
           by_cases c18 : t240 = 160
           ·rw [if_pos c18] at H
            have c18b0 : (t240 == 160) = true := beq_iff_eq.mpr c18
            have c18b1 : (t240 != 160) = false := bne_eq_false_iff_eq.mpr c18
            clear c18
            by_cases c19 : t254 = 160
            ·rw [if_pos c19] at H
             have c19b0 : (t254 == 160) = true := beq_iff_eq.mpr c19
             have c19b1 : (t254 != 160) = false := bne_eq_false_iff_eq.mpr c19
             clear c19
             replace H := Option.bind_eq_some_iff.mp H
             obtain ⟨t264, A200, H⟩ := H
             (try dsimp only at H)
             have A20 := Aside0.mk A200
             clear A200
             by_cases c21 : t264 = true
             ·subst c21
              rw [if_pos rfl] at H
              replace H := Option.bind_eq_some_iff.mp H
              obtain ⟨t265, A220, H⟩ := H
              (try dsimp only at H)
              have A22 := Aside0.mk A220
              clear A220
              (have HRT := Aside0.mk (Option.some.inj H); clear H)
              go_enter Try.func18, Try.ntmps18
              try go_wp2_with (first | ((with_reducible refine gate_dst (N := 1) rfl ?_); refine box_event ?hg (N := 1) ?hd (cs := #[.int .i64 0, .int .i64 0, .int .i64 0, .slice none 0 0, .int .i64 0, .int .i64 0, .int .i64 0]) (t := 38) ?hr ?_; (case hd => rfl); (case hg => rfl); (case hr => first | (go_simp; done) | (go_simp; rfl)); intro gb193 hg w23 hbox hb; have n0_ := Cz.bs (w := w) hb; have n1_ := Aside0.mk (hbox); have n2_ := Aside0.mk ((Cz.gs hg : w.heap.size ≤ gb193)); have n3_ := Aside0.mk ((Cz.gs hg : w.heap.size ≤ gb193)); clear HB; have HB := n0_; have BK193 := n1_; have GW193 := n2_; have GE193 := n3_; clear n0_ n1_ n2_ n3_; clear hb hbox hg; obtain ⟨hcz24_0, hcz24_1, hcz24_2, hcz24_3, hcz24_4, hcz24_5, hcz24_6, hfz24_0, hfz24_1, hfz24_2, hfz24_3, hfz24_4, hfz24_5, hfz24_6⟩ := Cz.d7 BK193) | ((with_reducible refine gate_callee (f := 19) rfl ?_); refine Cz.gL (N := (some 22)) Try.func19 #[.agg #[.int .i64 3, .int .i64 3, .int .i64 5, .slice none 0 0, .int .i64 0, .int .i64 0, .int .i64 0]] ?_; (refine (frame_Write.calls 3 3 5 _ _ ([] : List Int) 0 0 0 t194 t197 _ ?side1 ?side2 A1.out).mono ?_); (case side1 => exact Kd.C_nil _ _); (case side2 => exact Nat.le_refl _); rintro e w25 ⟨v195, rfl, ho0, hb⟩; refine ⟨_, rfl, ?_⟩; have n0_ := Aside0.mk (Kd.R_lower ho0 (below_size (by repeat (first | (with_reducible first | exact HB.out | apply below_alloc | apply pw_below_drewN | apply below_drew1 | refine below_set ?_ GE193.out) | exact HB.out)))); have n1_ := Aside0.mk (blk_below (g := gb193) (o := .cells #[.int .i64 3, .int .i64 3, .int .i64 5, .slice none 0 0, .int .i64 0, .int .i64 0, .int .i64 0] 38 (0, 0)) (by (with_reducible repeat (first | refine blk_drewN ?_ _ | refine blk_drew ?_ | refine blk_alloc ?_ _)); refine blk_put (cs := #[.int .i64 3, .int .i64 3, .int .i64 5, .slice none 0 0, .int .i64 0, .int .i64 0, .int .i64 0]) ?_ 6 _ rfl; refine blk_put (cs := #[.int .i64 3, .int .i64 3, .int .i64 5, .slice none 0 0, .int .i64 0, .int .i64 0, .int .i64 0]) ?_ 5 _ rfl; refine blk_put (cs := #[.int .i64 3, .int .i64 3, .int .i64 5, .slice none 0 0, .int .i64 0, .int .i64 0, .int .i64 0]) ?_ 4 _ rfl; refine blk_put (cs := #[.int .i64 3, .int .i64 3, .int .i64 5, .slice none 0 0, .int .i64 0, .int .i64 0, .int .i64 0]) ?_ 3 _ rfl; refine blk_put (cs := #[.int .i64 3, .int .i64 3, .int .i64 0, .slice none 0 0, .int .i64 0, .int .i64 0, .int .i64 0]) ?_ 2 _ rfl; refine blk_put (cs := #[.int .i64 3, .int .i64 0, .int .i64 0, .slice none 0 0, .int .i64 0, .int .i64 0, .int .i64 0]) ?_ 1 _ rfl; refine blk_put (cs := #[.int .i64 0, .int .i64 0, .int .i64 0, .slice none 0 0, .int .i64 0, .int .i64 0, .int .i64 0]) ?_ 0 _ rfl; (with_reducible repeat (first | refine blk_drewN ?_ _ | refine blk_drew ?_ | refine blk_alloc ?_ _)); exact BK193.out) hb); have n2_ := Cz.bs (w := w) hb; clear BK193; clear HB; have HO196 := n0_; have BK193 := n1_; have HB := n2_; clear n0_ n1_ n2_; (try clear hb); (try clear hb2); (try clear hk); (try clear hi); (try clear ho0); obtain ⟨Ao26, co26, eo26⟩ := Kd.R_slice HO196.out; subst eo26) | ((with_reducible refine gate_callee (f := 21) rfl ?_); refine Cz.gL (N := (some 27)) Try.func21 #[.slice Ao26 t194.length co26] ?_; (with_reducible refine (frame_Read.calls _ _ t194 t198 t199 t200 t201 t204 t205 t206 t207 t208 _ ?side1 ?side2 A2.out).mono ?_); (case side1 => repeat (first | exact (Kd.R_reads' HO196.out).2.2 | (with_reducible refine Kd.C_alloc ?_ _) | (with_reducible refine Kd.C_drewN ?_ _) | (with_reducible refine Kd.C_drew ?_))); (case side2 => exact (Kd.R_reads' HO196.out).2.1); rintro e w27 ⟨v202, rfl, ho0, hb⟩; refine ⟨_, rfl, ?_⟩; have n0_ := Aside0.mk (Kd.R_elder' (by (with_reducible repeat (first | apply Kd.R_alloc | apply Kd.R_drewN | apply Kd.R_drew)); exact HO196.out) (Kd.R_base ho0) hb); have n1_ := Aside0.mk (Kd.R_lower (Kd.R_new' ho0 (Kd.R_lt (by (with_reducible repeat (first | apply Kd.R_alloc | apply Kd.R_drewN | apply Kd.R_drew)); exact HO196.out))) (below_size (by repeat (first | (with_reducible first | exact HB.out | apply below_alloc | apply pw_below_drewN | apply below_drew1 | refine below_set ?_ GE193.out) | exact HB.out)))); have n2_ := Cz.bk BK193 hb; have n3_ := Cz.bs (w := w) hb; clear HO196; clear BK193; clear HB; have HO196 := n0_; have HO203 := n1_; have BK193 := n2_; have HB := n3_; clear n0_ n1_ n2_ n3_; (try clear hb); (try clear hb2); (try clear hk); (try clear hi); (try clear ho0)) | ((with_reducible refine gate_dst (N := 4) rfl ?_); refine box_event ?hg (N := 4) ?hd (cs := #[.int .i64 0, .int .i64 0, .int .i64 0, .slice none 0 0, .int .i64 0, .int .i64 0, .int .i64 0]) (t := 38) ?hr ?_; (case hd => rfl); (case hg => rfl); (case hr => first | (go_simp; done) | (go_simp; rfl)); intro gb209 hg w28 hbox hb; have n0_ := Cz.rb HO196 hb; have n1_ := Cz.rb HO203 hb; have n2_ := Cz.bk BK193 hb; have n3_ := Cz.bs (w := w) hb; have n4_ := Aside0.mk (hbox); have n5_ := Aside0.mk ((Cz.gs hg : w.heap.size ≤ gb209)); have n6_ := Aside0.mk ((Cz.gs hg : w.heap.size ≤ gb209)); have n7_ := Aside0.mk ((Cz.nl BK193 hg : gb193 ≠ gb209)); have n8_ := Aside0.mk ((Cz.nr BK193 hg : gb209 ≠ gb193)); clear HO196; clear HO203; clear BK193; clear HB; have HO196 := n0_; have HO203 := n1_; have BK193 := n2_; have HB := n3_; have BK209 := n4_; have GW209 := n5_; have GE209 := n6_; have NB193_209 := n7_; have NB209_193 := n8_; clear n0_ n1_ n2_ n3_ n4_ n5_ n6_ n7_ n8_; clear hb hbox hg; have hnb29 := NB209_193.out; have hnc29 := NB193_209.out; obtain ⟨hcz30_0, hcz30_1, hcz30_2, hcz30_3, hcz30_4, hcz30_5, hcz30_6, hfz30_0, hfz30_1, hfz30_2, hfz30_3, hfz30_4, hfz30_5, hfz30_6⟩ := Cz.d7 BK209; obtain ⟨Ao31, co31, eo31⟩ := Kd.R_slice HO203.out; subst eo31) | ((with_reducible refine gate_dst (N := 32) rfl ?_); refine Kd.R_lit (Kd.int .u8) _ 5 ?hg (N := 32) ?hd (xs := ([3, 2, 0, 3, 5, 0, 0, 0] : List Int)) (inner := [.int .u8 3, .int .u8 2, .int .u8 0, .int .u8 3, .int .u8 5, .int .u8 0, .int .u8 0, .int .u8 0]) (ok := fun _ => True) (okp := fun _ => True) ?hr ?hp (fun _ hk => hk) trivial (Below.refl _ _) (Nat.le_refl _) (by simp) ?_; (case hd => rfl); (case hg => rfl); (case hr => first | (go_simp; done) | (go_simp; rfl)); (case hp => exact (Reps.one (show Kd.M (Kd.int .u8) _ _ _ 3 [.int .u8 3] from rfl) (Reps.one (show Kd.M (Kd.int .u8) _ _ _ 2 [.int .u8 2] from rfl) (Reps.one (show Kd.M (Kd.int .u8) _ _ _ 0 [.int .u8 0] from rfl) (Reps.one (show Kd.M (Kd.int .u8) _ _ _ 3 [.int .u8 3] from rfl) (Reps.one (show Kd.M (Kd.int .u8) _ _ _ 5 [.int .u8 5] from rfl) (Reps.one (show Kd.M (Kd.int .u8) _ _ _ 0 [.int .u8 0] from rfl) (Reps.one (show Kd.M (Kd.int .u8) _ _ _ 0 [.int .u8 0] from rfl) (Reps.one (show Kd.M (Kd.int .u8) _ _ _ 0 [.int .u8 0] from rfl) (Reps.none _ _)))))))))); intro v211 w32 ho33 hb hg_ hnew_; clear hg_ hnew_; (first | rw [← Ny210.out] at ho33 | (simp only [Int.reduceToNat] at ho33; rw [← Ny210.out] at ho33)); have n0_ := Aside0.mk (Kd.R_elder' (by (with_reducible repeat (first | apply Kd.R_alloc | apply Kd.R_drewN | apply Kd.R_drew)); exact (Kd.R_mono (Kd.R_far (p := ⟨gb209, 6, none⟩) (Kd.R_far (p := ⟨gb209, 5, none⟩) (Kd.R_far (p := ⟨gb209, 4, none⟩) (Kd.R_far (p := ⟨gb209, 3, none⟩) (Kd.R_far (p := ⟨gb209, 2, none⟩) (Kd.R_far (p := ⟨gb209, 1, none⟩) (Kd.R_far (p := ⟨gb209, 0, none⟩) (Kd.R_types HO196.out BK209.out (by decide)) (fun _ hk => hk.2) (.int .i64 t198)) (fun _ hk => hk.2) (.int .i64 t199)) (fun _ hk => hk.2) (.int .i64 t200)) (fun _ hk => hk.2) (.slice Ao31 t201.length co31)) (fun _ hk => hk.2) (.int .i64 t204)) (fun _ hk => hk.2) (.int .i64 t205)) (fun _ hk => hk.2) (.int .i64 t206)) (fun _ h_ => h_.1))) (Kd.R_base ho33) hb); have n1_ := Aside0.mk (Kd.R_elder' (by (with_reducible repeat (first | apply Kd.R_alloc | apply Kd.R_drewN | apply Kd.R_drew)); exact (Kd.R_mono (Kd.R_far (p := ⟨gb209, 6, none⟩) (Kd.R_far (p := ⟨gb209, 5, none⟩) (Kd.R_far (p := ⟨gb209, 4, none⟩) (Kd.R_far (p := ⟨gb209, 3, none⟩) (Kd.R_far (p := ⟨gb209, 2, none⟩) (Kd.R_far (p := ⟨gb209, 1, none⟩) (Kd.R_far (p := ⟨gb209, 0, none⟩) (Kd.R_types HO203.out BK209.out (by decide)) (fun _ hk => hk.2) (.int .i64 t198)) (fun _ hk => hk.2) (.int .i64 t199)) (fun _ hk => hk.2) (.int .i64 t200)) (fun _ hk => hk.2) (.slice Ao31 t201.length co31)) (fun _ hk => hk.2) (.int .i64 t204)) (fun _ hk => hk.2) (.int .i64 t205)) (fun _ hk => hk.2) (.int .i64 t206)) (fun _ h_ => h_.1))) (Kd.R_base ho33) hb); have n2_ := Aside0.mk (Kd.R_lower (Kd.R_new' (Kd.R_new' ho33 (Kd.R_lt (by (with_reducible repeat (first | apply Kd.R_alloc | apply Kd.R_drewN | apply Kd.R_drew)); exact (Kd.R_mono (Kd.R_far (p := ⟨gb209, 6, none⟩) (Kd.R_far (p := ⟨gb209, 5, none⟩) (Kd.R_far (p := ⟨gb209, 4, none⟩) (Kd.R_far (p := ⟨gb209, 3, none⟩) (Kd.R_far (p := ⟨gb209, 2, none⟩) (Kd.R_far (p := ⟨gb209, 1, none⟩) (Kd.R_far (p := ⟨gb209, 0, none⟩) (Kd.R_types HO196.out BK209.out (by decide)) (fun _ hk => hk.2) (.int .i64 t198)) (fun _ hk => hk.2) (.int .i64 t199)) (fun _ hk => hk.2) (.int .i64 t200)) (fun _ hk => hk.2) (.slice Ao31 t201.length co31)) (fun _ hk => hk.2) (.int .i64 t204)) (fun _ hk => hk.2) (.int .i64 t205)) (fun _ hk => hk.2) (.int .i64 t206)) (fun _ h_ => h_.1))))) (Kd.R_lt (by (with_reducible repeat (first | apply Kd.R_alloc | apply Kd.R_drewN | apply Kd.R_drew)); exact (Kd.R_mono (Kd.R_far (p := ⟨gb209, 6, none⟩) (Kd.R_far (p := ⟨gb209, 5, none⟩) (Kd.R_far (p := ⟨gb209, 4, none⟩) (Kd.R_far (p := ⟨gb209, 3, none⟩) (Kd.R_far (p := ⟨gb209, 2, none⟩) (Kd.R_far (p := ⟨gb209, 1, none⟩) (Kd.R_far (p := ⟨gb209, 0, none⟩) (Kd.R_types HO203.out BK209.out (by decide)) (fun _ hk => hk.2) (.int .i64 t198)) (fun _ hk => hk.2) (.int .i64 t199)) (fun _ hk => hk.2) (.int .i64 t200)) (fun _ hk => hk.2) (.slice Ao31 t201.length co31)) (fun _ hk => hk.2) (.int .i64 t204)) (fun _ hk => hk.2) (.int .i64 t205)) (fun _ hk => hk.2) (.int .i64 t206)) (fun _ h_ => h_.1))))) (below_size (by repeat (first | (with_reducible first | exact HB.out | apply below_alloc | apply pw_below_drewN | apply below_drew1 | refine below_set ?_ GE193.out | refine below_set ?_ GE209.out) | exact HB.out)))); have n3_ := Aside0.mk (blk_below (g := gb193) (o := .cells #[.int .i64 3, .int .i64 3, .int .i64 5, .slice none 0 0, .int .i64 0, .int .i64 0, .int .i64 0] 38 (0, 0)) (by (with_reducible repeat (first | refine blk_drewN ?_ _ | refine blk_drew ?_ | refine blk_alloc ?_ _)); refine blk_far ?_ NB193_209.out _; refine blk_far ?_ NB193_209.out _; refine blk_far ?_ NB193_209.out _; refine blk_far ?_ NB193_209.out _; refine blk_far ?_ NB193_209.out _; refine blk_far ?_ NB193_209.out _; refine blk_far ?_ NB193_209.out _; (with_reducible repeat (first | refine blk_drewN ?_ _ | refine blk_drew ?_ | refine blk_alloc ?_ _)); exact BK193.out) hb); have n4_ := Aside0.mk (blk_below (g := gb209) (o := .cells #[.int .i64 t198, .int .i64 t199, .int .i64 t200, .slice Ao31 t201.length co31, .int .i64 t204, .int .i64 t205, .int .i64 t206] 38 (0, 0)) (by (with_reducible repeat (first | refine blk_drewN ?_ _ | refine blk_drew ?_ | refine blk_alloc ?_ _)); refine blk_put (cs := #[.int .i64 t198, .int .i64 t199, .int .i64 t200, .slice Ao31 t201.length co31, .int .i64 t204, .int .i64 t205, .int .i64 0]) ?_ 6 _ rfl; refine blk_put (cs := #[.int .i64 t198, .int .i64 t199, .int .i64 t200, .slice Ao31 t201.length co31, .int .i64 t204, .int .i64 0, .int .i64 0]) ?_ 5 _ rfl; refine blk_put (cs := #[.int .i64 t198, .int .i64 t199, .int .i64 t200, .slice Ao31 t201.length co31, .int .i64 0, .int .i64 0, .int .i64 0]) ?_ 4 _ rfl; refine blk_put (cs := #[.int .i64 t198, .int .i64 t199, .int .i64 t200, .slice none 0 0, .int .i64 0, .int .i64 0, .int .i64 0]) ?_ 3 _ rfl; refine blk_put (cs := #[.int .i64 t198, .int .i64 t199, .int .i64 0, .slice none 0 0, .int .i64 0, .int .i64 0, .int .i64 0]) ?_ 2 _ rfl; refine blk_put (cs := #[.int .i64 t198, .int .i64 0, .int .i64 0, .slice none 0 0, .int .i64 0, .int .i64 0, .int .i64 0]) ?_ 1 _ rfl; refine blk_put (cs := #[.int .i64 0, .int .i64 0, .int .i64 0, .slice none 0 0, .int .i64 0, .int .i64 0, .int .i64 0]) ?_ 0 _ rfl; (with_reducible repeat (first | refine blk_drewN ?_ _ | refine blk_drew ?_ | refine blk_alloc ?_ _)); exact BK209.out) hb); have n5_ := Cz.bs (w := w) hb; clear HO196; clear HO203; clear BK193; clear BK209; clear HB; have HO196 := n0_; have HO203 := n1_; have HO212 := n2_; have BK193 := n3_; have BK209 := n4_; have HB := n5_; clear n0_ n1_ n2_ n3_ n4_ n5_; clear hb ho33; obtain ⟨Ao34, co34, eo34⟩ := Kd.R_slice HO212.out; subst eo34) | ((with_reducible refine gate_callee (f := 21) rfl ?_); refine Cz.gL (N := (some 33)) Try.func21 #[.slice Ao34 y210.length co34] ?_; (with_reducible refine (frame_Read.calls _ _ y210 t213 t214 t215 t216 t219 t220 t221 t222 t223 _ ?side1 ?side2 A3.out).mono ?_); (case side1 => repeat (first | exact (Kd.R_reads' HO212.out).2.2 | (with_reducible refine Kd.C_alloc ?_ _) | (with_reducible refine Kd.C_drewN ?_ _) | (with_reducible refine Kd.C_drew ?_))); (case side2 => exact (Kd.R_reads' HO212.out).2.1); rintro e w35 ⟨v217, rfl, ho0, hb⟩; refine ⟨_, rfl, ?_⟩; have n0_ := Aside0.mk (Kd.R_elder' (by (with_reducible repeat (first | apply Kd.R_alloc | apply Kd.R_drewN | apply Kd.R_drew)); exact HO196.out) (Kd.R_base ho0) hb); have n1_ := Aside0.mk (Kd.R_elder' (by (with_reducible repeat (first | apply Kd.R_alloc | apply Kd.R_drewN | apply Kd.R_drew)); exact HO203.out) (Kd.R_base ho0) hb); have n2_ := Aside0.mk (Kd.R_elder' (by (with_reducible repeat (first | apply Kd.R_alloc | apply Kd.R_drewN | apply Kd.R_drew)); exact HO212.out) (Kd.R_base ho0) hb); have n3_ := Aside0.mk (Kd.R_lower (Kd.R_new' (Kd.R_new' (Kd.R_new' ho0 (Kd.R_lt (by (with_reducible repeat (first | apply Kd.R_alloc | apply Kd.R_drewN | apply Kd.R_drew)); exact HO196.out))) (Kd.R_lt (by (with_reducible repeat (first | apply Kd.R_alloc | apply Kd.R_drewN | apply Kd.R_drew)); exact HO203.out))) (Kd.R_lt (by (with_reducible repeat (first | apply Kd.R_alloc | apply Kd.R_drewN | apply Kd.R_drew)); exact HO212.out))) (below_size (by repeat (first | (with_reducible first | exact HB.out | apply below_alloc | apply pw_below_drewN | apply below_drew1 | refine below_set ?_ GE193.out | refine below_set ?_ GE209.out) | exact HB.out)))); have n4_ := Cz.bk BK193 hb; have n5_ := Cz.bk BK209 hb; have n6_ := Cz.bs (w := w) hb; clear HO196; clear HO203; clear HO212; clear BK193; clear BK209; clear HB; have HO196 := n0_; have HO203 := n1_; have HO212 := n2_; have HO218 := n3_; have BK193 := n4_; have BK209 := n5_; have HB := n6_; clear n0_ n1_ n2_ n3_ n4_ n5_ n6_; (try clear hb); (try clear hb2); (try clear hk); (try clear hi); (try clear ho0)) | ((with_reducible refine gate_dst (N := 7) rfl ?_); refine box_event ?hg (N := 7) ?hd (cs := #[.int .i64 0, .int .i64 0, .int .i64 0, .slice none 0 0, .int .i64 0, .int .i64 0, .int .i64 0]) (t := 38) ?hr ?_; (case hd => rfl); (case hg => rfl); (case hr => first | (go_simp; done) | (go_simp; rfl)); intro gb224 hg w36 hbox hb; have n0_ := Cz.rb HO196 hb; have n1_ := Cz.rb HO203 hb; have n2_ := Cz.rb HO212 hb; have n3_ := Cz.rb HO218 hb; have n4_ := Cz.bk BK193 hb; have n5_ := Cz.bk BK209 hb; have n6_ := Cz.bs (w := w) hb; have n7_ := Aside0.mk (hbox); have n8_ := Aside0.mk ((Cz.gs hg : w.heap.size ≤ gb224)); have n9_ := Aside0.mk ((Cz.gs hg : w.heap.size ≤ gb224)); have n10_ := Aside0.mk ((Cz.nl BK193 hg : gb193 ≠ gb224)); have n11_ := Aside0.mk ((Cz.nr BK193 hg : gb224 ≠ gb193)); have n12_ := Aside0.mk ((Cz.nl BK209 hg : gb209 ≠ gb224)); have n13_ := Aside0.mk ((Cz.nr BK209 hg : gb224 ≠ gb209)); clear HO196; clear HO203; clear HO212; clear HO218; clear BK193; clear BK209; clear HB; have HO196 := n0_; have HO203 := n1_; have HO212 := n2_; have HO218 := n3_; have BK193 := n4_; have BK209 := n5_; have HB := n6_; have BK224 := n7_; have GW224 := n8_; have GE224 := n9_; have NB193_224 := n10_; have NB224_193 := n11_; have NB209_224 := n12_; have NB224_209 := n13_; clear n0_ n1_ n2_ n3_ n4_ n5_ n6_ n7_ n8_ n9_ n10_ n11_ n12_ n13_; clear hb hbox hg; have hnb37 := NB224_193.out; have hnc37 := NB193_224.out; have hnb38 := NB224_209.out; have hnc38 := NB209_224.out; obtain ⟨hcz39_0, hcz39_1, hcz39_2, hcz39_3, hcz39_4, hcz39_5, hcz39_6, hfz39_0, hfz39_1, hfz39_2, hfz39_3, hfz39_4, hfz39_5, hfz39_6⟩ := Cz.d7 BK224; obtain ⟨Ao40, co40, eo40⟩ := Kd.R_slice HO218.out; subst eo40) | ((with_reducible refine gate_callee (f := 21) rfl ?_); refine Cz.gL (N := (some 38)) Try.func21 #[.slice none 0 0] ?_; (refine (frame_Read.calls _ _ ([] : List Int) t225 t226 t227 t228 t231 t232 t233 t234 t235 _ ?side1 ?side2 A4.out).mono ?_); (case side1 => exact Kd.C_nil _ _); (case side2 => exact Nat.le_refl _); rintro e w41 ⟨v229, rfl, ho0, hb⟩; refine ⟨_, rfl, ?_⟩; have n0_ := Aside0.mk (Kd.R_elder' (by (with_reducible repeat (first | apply Kd.R_alloc | apply Kd.R_drewN | apply Kd.R_drew)); exact (Kd.R_mono (Kd.R_far (p := ⟨gb224, 6, none⟩) (Kd.R_far (p := ⟨gb224, 5, none⟩) (Kd.R_far (p := ⟨gb224, 4, none⟩) (Kd.R_far (p := ⟨gb224, 3, none⟩) (Kd.R_far (p := ⟨gb224, 2, none⟩) (Kd.R_far (p := ⟨gb224, 1, none⟩) (Kd.R_far (p := ⟨gb224, 0, none⟩) (Kd.R_types HO196.out BK224.out (by decide)) (fun _ hk => hk.2) (.int .i64 t213)) (fun _ hk => hk.2) (.int .i64 t214)) (fun _ hk => hk.2) (.int .i64 t215)) (fun _ hk => hk.2) (.slice Ao40 t216.length co40)) (fun _ hk => hk.2) (.int .i64 t219)) (fun _ hk => hk.2) (.int .i64 t220)) (fun _ hk => hk.2) (.int .i64 t221)) (fun _ h_ => h_.1))) (Kd.R_base ho0) hb); have n1_ := Aside0.mk (Kd.R_elder' (by (with_reducible repeat (first | apply Kd.R_alloc | apply Kd.R_drewN | apply Kd.R_drew)); exact (Kd.R_mono (Kd.R_far (p := ⟨gb224, 6, none⟩) (Kd.R_far (p := ⟨gb224, 5, none⟩) (Kd.R_far (p := ⟨gb224, 4, none⟩) (Kd.R_far (p := ⟨gb224, 3, none⟩) (Kd.R_far (p := ⟨gb224, 2, none⟩) (Kd.R_far (p := ⟨gb224, 1, none⟩) (Kd.R_far (p := ⟨gb224, 0, none⟩) (Kd.R_types HO203.out BK224.out (by decide)) (fun _ hk => hk.2) (.int .i64 t213)) (fun _ hk => hk.2) (.int .i64 t214)) (fun _ hk => hk.2) (.int .i64 t215)) (fun _ hk => hk.2) (.slice Ao40 t216.length co40)) (fun _ hk => hk.2) (.int .i64 t219)) (fun _ hk => hk.2) (.int .i64 t220)) (fun _ hk => hk.2) (.int .i64 t221)) (fun _ h_ => h_.1))) (Kd.R_base ho0) hb); have n2_ := Aside0.mk (Kd.R_elder' (by (with_reducible repeat (first | apply Kd.R_alloc | apply Kd.R_drewN | apply Kd.R_drew)); exact (Kd.R_mono (Kd.R_far (p := ⟨gb224, 6, none⟩) (Kd.R_far (p := ⟨gb224, 5, none⟩) (Kd.R_far (p := ⟨gb224, 4, none⟩) (Kd.R_far (p := ⟨gb224, 3, none⟩) (Kd.R_far (p := ⟨gb224, 2, none⟩) (Kd.R_far (p := ⟨gb224, 1, none⟩) (Kd.R_far (p := ⟨gb224, 0, none⟩) (Kd.R_types HO212.out BK224.out (by decide)) (fun _ hk => hk.2) (.int .i64 t213)) (fun _ hk => hk.2) (.int .i64 t214)) (fun _ hk => hk.2) (.int .i64 t215)) (fun _ hk => hk.2) (.slice Ao40 t216.length co40)) (fun _ hk => hk.2) (.int .i64 t219)) (fun _ hk => hk.2) (.int .i64 t220)) (fun _ hk => hk.2) (.int .i64 t221)) (fun _ h_ => h_.1))) (Kd.R_base ho0) hb); have n3_ := Aside0.mk (Kd.R_elder' (by (with_reducible repeat (first | apply Kd.R_alloc | apply Kd.R_drewN | apply Kd.R_drew)); exact (Kd.R_mono (Kd.R_far (p := ⟨gb224, 6, none⟩) (Kd.R_far (p := ⟨gb224, 5, none⟩) (Kd.R_far (p := ⟨gb224, 4, none⟩) (Kd.R_far (p := ⟨gb224, 3, none⟩) (Kd.R_far (p := ⟨gb224, 2, none⟩) (Kd.R_far (p := ⟨gb224, 1, none⟩) (Kd.R_far (p := ⟨gb224, 0, none⟩) (Kd.R_types HO218.out BK224.out (by decide)) (fun _ hk => hk.2) (.int .i64 t213)) (fun _ hk => hk.2) (.int .i64 t214)) (fun _ hk => hk.2) (.int .i64 t215)) (fun _ hk => hk.2) (.slice Ao40 t216.length co40)) (fun _ hk => hk.2) (.int .i64 t219)) (fun _ hk => hk.2) (.int .i64 t220)) (fun _ hk => hk.2) (.int .i64 t221)) (fun _ h_ => h_.1))) (Kd.R_base ho0) hb); have n4_ := Aside0.mk (Kd.R_lower (Kd.R_new' (Kd.R_new' (Kd.R_new' (Kd.R_new' ho0 (Kd.R_lt (by (with_reducible repeat (first | apply Kd.R_alloc | apply Kd.R_drewN | apply Kd.R_drew)); exact (Kd.R_mono (Kd.R_far (p := ⟨gb224, 6, none⟩) (Kd.R_far (p := ⟨gb224, 5, none⟩) (Kd.R_far (p := ⟨gb224, 4, none⟩) (Kd.R_far (p := ⟨gb224, 3, none⟩) (Kd.R_far (p := ⟨gb224, 2, none⟩) (Kd.R_far (p := ⟨gb224, 1, none⟩) (Kd.R_far (p := ⟨gb224, 0, none⟩) (Kd.R_types HO196.out BK224.out (by decide)) (fun _ hk => hk.2) (.int .i64 t213)) (fun _ hk => hk.2) (.int .i64 t214)) (fun _ hk => hk.2) (.int .i64 t215)) (fun _ hk => hk.2) (.slice Ao40 t216.length co40)) (fun _ hk => hk.2) (.int .i64 t219)) (fun _ hk => hk.2) (.int .i64 t220)) (fun _ hk => hk.2) (.int .i64 t221)) (fun _ h_ => h_.1))))) (Kd.R_lt (by (with_reducible repeat (first | apply Kd.R_alloc | apply Kd.R_drewN | apply Kd.R_drew)); exact (Kd.R_mono (Kd.R_far (p := ⟨gb224, 6, none⟩) (Kd.R_far (p := ⟨gb224, 5, none⟩) (Kd.R_far (p := ⟨gb224, 4, none⟩) (Kd.R_far (p := ⟨gb224, 3, none⟩) (Kd.R_far (p := ⟨gb224, 2, none⟩) (Kd.R_far (p := ⟨gb224, 1, none⟩) (Kd.R_far (p := ⟨gb224, 0, none⟩) (Kd.R_types HO203.out BK224.out (by decide)) (fun _ hk => hk.2) (.int .i64 t213)) (fun _ hk => hk.2) (.int .i64 t214)) (fun _ hk => hk.2) (.int .i64 t215)) (fun _ hk => hk.2) (.slice Ao40 t216.length co40)) (fun _ hk => hk.2) (.int .i64 t219)) (fun _ hk => hk.2) (.int .i64 t220)) (fun _ hk => hk.2) (.int .i64 t221)) (fun _ h_ => h_.1))))) (Kd.R_lt (by (with_reducible repeat (first | apply Kd.R_alloc | apply Kd.R_drewN | apply Kd.R_drew)); exact (Kd.R_mono (Kd.R_far (p := ⟨gb224, 6, none⟩) (Kd.R_far (p := ⟨gb224, 5, none⟩) (Kd.R_far (p := ⟨gb224, 4, none⟩) (Kd.R_far (p := ⟨gb224, 3, none⟩) (Kd.R_far (p := ⟨gb224, 2, none⟩) (Kd.R_far (p := ⟨gb224, 1, none⟩) (Kd.R_far (p := ⟨gb224, 0, none⟩) (Kd.R_types HO212.out BK224.out (by decide)) (fun _ hk => hk.2) (.int .i64 t213)) (fun _ hk => hk.2) (.int .i64 t214)) (fun _ hk => hk.2) (.int .i64 t215)) (fun _ hk => hk.2) (.slice Ao40 t216.length co40)) (fun _ hk => hk.2) (.int .i64 t219)) (fun _ hk => hk.2) (.int .i64 t220)) (fun _ hk => hk.2) (.int .i64 t221)) (fun _ h_ => h_.1))))) (Kd.R_lt (by (with_reducible repeat (first | apply Kd.R_alloc | apply Kd.R_drewN | apply Kd.R_drew)); exact (Kd.R_mono (Kd.R_far (p := ⟨gb224, 6, none⟩) (Kd.R_far (p := ⟨gb224, 5, none⟩) (Kd.R_far (p := ⟨gb224, 4, none⟩) (Kd.R_far (p := ⟨gb224, 3, none⟩) (Kd.R_far (p := ⟨gb224, 2, none⟩) (Kd.R_far (p := ⟨gb224, 1, none⟩) (Kd.R_far (p := ⟨gb224, 0, none⟩) (Kd.R_types HO218.out BK224.out (by decide)) (fun _ hk => hk.2) (.int .i64 t213)) (fun _ hk => hk.2) (.int .i64 t214)) (fun _ hk => hk.2) (.int .i64 t215)) (fun _ hk => hk.2) (.slice Ao40 t216.length co40)) (fun _ hk => hk.2) (.int .i64 t219)) (fun _ hk => hk.2) (.int .i64 t220)) (fun _ hk => hk.2) (.int .i64 t221)) (fun _ h_ => h_.1))))) (below_size (by repeat (first | (with_reducible first | exact HB.out | apply below_alloc | apply pw_below_drewN | apply below_drew1 | refine below_set ?_ GE193.out | refine below_set ?_ GE209.out | refine below_set ?_ GE224.out) | exact HB.out)))); have n5_ := Aside0.mk (blk_below (g := gb193) (o := .cells #[.int .i64 3, .int .i64 3, .int .i64 5, .slice none 0 0, .int .i64 0, .int .i64 0, .int .i64 0] 38 (0, 0)) (by (with_reducible repeat (first | refine blk_drewN ?_ _ | refine blk_drew ?_ | refine blk_alloc ?_ _)); refine blk_far ?_ NB193_224.out _; refine blk_far ?_ NB193_224.out _; refine blk_far ?_ NB193_224.out _; refine blk_far ?_ NB193_224.out _; refine blk_far ?_ NB193_224.out _; refine blk_far ?_ NB193_224.out _; refine blk_far ?_ NB193_224.out _; (with_reducible repeat (first | refine blk_drewN ?_ _ | refine blk_drew ?_ | refine blk_alloc ?_ _)); exact BK193.out) hb); have n6_ := Aside0.mk (blk_below (g := gb209) (o := .cells #[.int .i64 t198, .int .i64 t199, .int .i64 t200, .slice Ao31 t201.length co31, .int .i64 t204, .int .i64 t205, .int .i64 t206] 38 (0, 0)) (by (with_reducible repeat (first | refine blk_drewN ?_ _ | refine blk_drew ?_ | refine blk_alloc ?_ _)); refine blk_far ?_ NB209_224.out _; refine blk_far ?_ NB209_224.out _; refine blk_far ?_ NB209_224.out _; refine blk_far ?_ NB209_224.out _; refine blk_far ?_ NB209_224.out _; refine blk_far ?_ NB209_224.out _; refine blk_far ?_ NB209_224.out _; (with_reducible repeat (first | refine blk_drewN ?_ _ | refine blk_drew ?_ | refine blk_alloc ?_ _)); exact BK209.out) hb); have n7_ := Aside0.mk (blk_below (g := gb224) (o := .cells #[.int .i64 t213, .int .i64 t214, .int .i64 t215, .slice Ao40 t216.length co40, .int .i64 t219, .int .i64 t220, .int .i64 t221] 38 (0, 0)) (by (with_reducible repeat (first | refine blk_drewN ?_ _ | refine blk_drew ?_ | refine blk_alloc ?_ _)); refine blk_put (cs := #[.int .i64 t213, .int .i64 t214, .int .i64 t215, .slice Ao40 t216.length co40, .int .i64 t219, .int .i64 t220, .int .i64 0]) ?_ 6 _ rfl; refine blk_put (cs := #[.int .i64 t213, .int .i64 t214, .int .i64 t215, .slice Ao40 t216.length co40, .int .i64 t219, .int .i64 0, .int .i64 0]) ?_ 5 _ rfl; refine blk_put (cs := #[.int .i64 t213, .int .i64 t214, .int .i64 t215, .slice Ao40 t216.length co40, .int .i64 0, .int .i64 0, .int .i64 0]) ?_ 4 _ rfl; refine blk_put (cs := #[.int .i64 t213, .int .i64 t214, .int .i64 t215, .slice none 0 0, .int .i64 0, .int .i64 0, .int .i64 0]) ?_ 3 _ rfl; refine blk_put (cs := #[.int .i64 t213, .int .i64 t214, .int .i64 0, .slice none 0 0, .int .i64 0, .int .i64 0, .int .i64 0]) ?_ 2 _ rfl; refine blk_put (cs := #[.int .i64 t213, .int .i64 0, .int .i64 0, .slice none 0 0, .int .i64 0, .int .i64 0, .int .i64 0]) ?_ 1 _ rfl; refine blk_put (cs := #[.int .i64 0, .int .i64 0, .int .i64 0, .slice none 0 0, .int .i64 0, .int .i64 0, .int .i64 0]) ?_ 0 _ rfl; (with_reducible repeat (first | refine blk_drewN ?_ _ | refine blk_drew ?_ | refine blk_alloc ?_ _)); exact BK224.out) hb); have n8_ := Cz.bs (w := w) hb; clear HO196; clear HO203; clear HO212; clear HO218; clear BK193; clear BK209; clear BK224; clear HB; have HO196 := n0_; have HO203 := n1_; have HO212 := n2_; have HO218 := n3_; have HO230 := n4_; have BK193 := n5_; have BK209 := n6_; have BK224 := n7_; have HB := n8_; clear n0_ n1_ n2_ n3_ n4_ n5_ n6_ n7_ n8_; (try clear hb); (try clear hb2); (try clear hk); (try clear hi); (try clear ho0)) | ((with_reducible refine gate_dst (N := 10) rfl ?_); refine box_event ?hg (N := 10) ?hd (cs := #[.int .i64 0, .int .i64 0, .int .i64 0, .slice none 0 0, .int .i64 0, .int .i64 0, .int .i64 0]) (t := 38) ?hr ?_; (case hd => rfl); (case hg => rfl); (case hr => first | (go_simp; done) | (go_simp; rfl)); intro gb236 hg w42 hbox hb; have n0_ := Cz.rb HO196 hb; have n1_ := Cz.rb HO203 hb; have n2_ := Cz.rb HO212 hb; have n3_ := Cz.rb HO218 hb; have n4_ := Cz.rb HO230 hb; have n5_ := Cz.bk BK193 hb; have n6_ := Cz.bk BK209 hb; have n7_ := Cz.bk BK224 hb; have n8_ := Cz.bs (w := w) hb; have n9_ := Aside0.mk (hbox); have n10_ := Aside0.mk ((Cz.gs hg : w.heap.size ≤ gb236)); have n11_ := Aside0.mk ((Cz.gs hg : w.heap.size ≤ gb236)); have n12_ := Aside0.mk ((Cz.nl BK193 hg : gb193 ≠ gb236)); have n13_ := Aside0.mk ((Cz.nr BK193 hg : gb236 ≠ gb193)); have n14_ := Aside0.mk ((Cz.nl BK209 hg : gb209 ≠ gb236)); have n15_ := Aside0.mk ((Cz.nr BK209 hg : gb236 ≠ gb209)); have n16_ := Aside0.mk ((Cz.nl BK224 hg : gb224 ≠ gb236)); have n17_ := Aside0.mk ((Cz.nr BK224 hg : gb236 ≠ gb224)); clear HO196; clear HO203; clear HO212; clear HO218; clear HO230; clear BK193; clear BK209; clear BK224; clear HB; have HO196 := n0_; have HO203 := n1_; have HO212 := n2_; have HO218 := n3_; have HO230 := n4_; have BK193 := n5_; have BK209 := n6_; have BK224 := n7_; have HB := n8_; have BK236 := n9_; have GW236 := n10_; have GE236 := n11_; have NB193_236 := n12_; have NB236_193 := n13_; have NB209_236 := n14_; have NB236_209 := n15_; have NB224_236 := n16_; have NB236_224 := n17_; clear n0_ n1_ n2_ n3_ n4_ n5_ n6_ n7_ n8_ n9_ n10_ n11_ n12_ n13_ n14_ n15_ n16_ n17_; clear hb hbox hg; have hnb43 := NB236_193.out; have hnc43 := NB193_236.out; have hnb44 := NB236_209.out; have hnc44 := NB209_236.out; have hnb45 := NB236_224.out; have hnc45 := NB224_236.out; obtain ⟨hcz46_0, hcz46_1, hcz46_2, hcz46_3, hcz46_4, hcz46_5, hcz46_6, hfz46_0, hfz46_1, hfz46_2, hfz46_3, hfz46_4, hfz46_5, hfz46_6⟩ := Cz.d7 BK236; obtain ⟨Ao47, co47, eo47⟩ := Kd.R_slice HO230.out; subst eo47) | ((with_reducible refine gate_callee (f := 19) rfl ?_); refine Cz.gL (N := (some 44)) Try.func19 #[.agg #[.int .i64 0, .int .i64 0, .int .i64 0, .slice none 0 0, .int .i64 0, .int .i64 0, .int .i64 0]] ?_; (refine (frame_Write.calls 0 0 0 _ _ ([] : List Int) 0 0 0 t237 t240 _ ?side1 ?side2 A5.out).mono ?_); (case side1 => exact Kd.C_nil _ _); (case side2 => exact Nat.le_refl _); rintro e w48 ⟨v238, rfl, ho0, hb⟩; refine ⟨_, rfl, ?_⟩; have n0_ := Aside0.mk (Kd.R_elder' (by (with_reducible repeat (first | apply Kd.R_alloc | apply Kd.R_drewN | apply Kd.R_drew)); exact (Kd.R_mono (Kd.R_far (p := ⟨gb236, 6, none⟩) (Kd.R_far (p := ⟨gb236, 5, none⟩) (Kd.R_far (p := ⟨gb236, 4, none⟩) (Kd.R_far (p := ⟨gb236, 3, none⟩) (Kd.R_far (p := ⟨gb236, 2, none⟩) (Kd.R_far (p := ⟨gb236, 1, none⟩) (Kd.R_far (p := ⟨gb236, 0, none⟩) (Kd.R_types HO196.out BK236.out (by decide)) (fun _ hk => hk.2) (.int .i64 t225)) (fun _ hk => hk.2) (.int .i64 t226)) (fun _ hk => hk.2) (.int .i64 t227)) (fun _ hk => hk.2) (.slice Ao47 t228.length co47)) (fun _ hk => hk.2) (.int .i64 t231)) (fun _ hk => hk.2) (.int .i64 t232)) (fun _ hk => hk.2) (.int .i64 t233)) (fun _ h_ => h_.1))) (Kd.R_base ho0) hb); have n1_ := Aside0.mk (Kd.R_elder' (by (with_reducible repeat (first | apply Kd.R_alloc | apply Kd.R_drewN | apply Kd.R_drew)); exact (Kd.R_mono (Kd.R_far (p := ⟨gb236, 6, none⟩) (Kd.R_far (p := ⟨gb236, 5, none⟩) (Kd.R_far (p := ⟨gb236, 4, none⟩) (Kd.R_far (p := ⟨gb236, 3, none⟩) (Kd.R_far (p := ⟨gb236, 2, none⟩) (Kd.R_far (p := ⟨gb236, 1, none⟩) (Kd.R_far (p := ⟨gb236, 0, none⟩) (Kd.R_types HO203.out BK236.out (by decide)) (fun _ hk => hk.2) (.int .i64 t225)) (fun _ hk => hk.2) (.int .i64 t226)) (fun _ hk => hk.2) (.int .i64 t227)) (fun _ hk => hk.2) (.slice Ao47 t228.length co47)) (fun _ hk => hk.2) (.int .i64 t231)) (fun _ hk => hk.2) (.int .i64 t232)) (fun _ hk => hk.2) (.int .i64 t233)) (fun _ h_ => h_.1))) (Kd.R_base ho0) hb); have n2_ := Aside0.mk (Kd.R_elder' (by (with_reducible repeat (first | apply Kd.R_alloc | apply Kd.R_drewN | apply Kd.R_drew)); exact (Kd.R_mono (Kd.R_far (p := ⟨gb236, 6, none⟩) (Kd.R_far (p := ⟨gb236, 5, none⟩) (Kd.R_far (p := ⟨gb236, 4, none⟩) (Kd.R_far (p := ⟨gb236, 3, none⟩) (Kd.R_far (p := ⟨gb236, 2, none⟩) (Kd.R_far (p := ⟨gb236, 1, none⟩) (Kd.R_far (p := ⟨gb236, 0, none⟩) (Kd.R_types HO212.out BK236.out (by decide)) (fun _ hk => hk.2) (.int .i64 t225)) (fun _ hk => hk.2) (.int .i64 t226)) (fun _ hk => hk.2) (.int .i64 t227)) (fun _ hk => hk.2) (.slice Ao47 t228.length co47)) (fun _ hk => hk.2) (.int .i64 t231)) (fun _ hk => hk.2) (.int .i64 t232)) (fun _ hk => hk.2) (.int .i64 t233)) (fun _ h_ => h_.1))) (Kd.R_base ho0) hb); have n3_ := Aside0.mk (Kd.R_elder' (by (with_reducible repeat (first | apply Kd.R_alloc | apply Kd.R_drewN | apply Kd.R_drew)); exact (Kd.R_mono (Kd.R_far (p := ⟨gb236, 6, none⟩) (Kd.R_far (p := ⟨gb236, 5, none⟩) (Kd.R_far (p := ⟨gb236, 4, none⟩) (Kd.R_far (p := ⟨gb236, 3, none⟩) (Kd.R_far (p := ⟨gb236, 2, none⟩) (Kd.R_far (p := ⟨gb236, 1, none⟩) (Kd.R_far (p := ⟨gb236, 0, none⟩) (Kd.R_types HO218.out BK236.out (by decide)) (fun _ hk => hk.2) (.int .i64 t225)) (fun _ hk => hk.2) (.int .i64 t226)) (fun _ hk => hk.2) (.int .i64 t227)) (fun _ hk => hk.2) (.slice Ao47 t228.length co47)) (fun _ hk => hk.2) (.int .i64 t231)) (fun _ hk => hk.2) (.int .i64 t232)) (fun _ hk => hk.2) (.int .i64 t233)) (fun _ h_ => h_.1))) (Kd.R_base ho0) hb); have n4_ := Aside0.mk (Kd.R_elder' (by (with_reducible repeat (first | apply Kd.R_alloc | apply Kd.R_drewN | apply Kd.R_drew)); exact (Kd.R_mono (Kd.R_far (p := ⟨gb236, 6, none⟩) (Kd.R_far (p := ⟨gb236, 5, none⟩) (Kd.R_far (p := ⟨gb236, 4, none⟩) (Kd.R_far (p := ⟨gb236, 3, none⟩) (Kd.R_far (p := ⟨gb236, 2, none⟩) (Kd.R_far (p := ⟨gb236, 1, none⟩) (Kd.R_far (p := ⟨gb236, 0, none⟩) (Kd.R_types HO230.out BK236.out (by decide)) (fun _ hk => hk.2) (.int .i64 t225)) (fun _ hk => hk.2) (.int .i64 t226)) (fun _ hk => hk.2) (.int .i64 t227)) (fun _ hk => hk.2) (.slice Ao47 t228.length co47)) (fun _ hk => hk.2) (.int .i64 t231)) (fun _ hk => hk.2) (.int .i64 t232)) (fun _ hk => hk.2) (.int .i64 t233)) (fun _ h_ => h_.1))) (Kd.R_base ho0) hb); have n5_ := Aside0.mk (Kd.R_lower (Kd.R_new' (Kd.R_new' (Kd.R_new' (Kd.R_new' (Kd.R_new' ho0 (Kd.R_lt (by (with_reducible repeat (first | apply Kd.R_alloc | apply Kd.R_drewN | apply Kd.R_drew)); exact (Kd.R_mono (Kd.R_far (p := ⟨gb236, 6, none⟩) (Kd.R_far (p := ⟨gb236, 5, none⟩) (Kd.R_far (p := ⟨gb236, 4, none⟩) (Kd.R_far (p := ⟨gb236, 3, none⟩) (Kd.R_far (p := ⟨gb236, 2, none⟩) (Kd.R_far (p := ⟨gb236, 1, none⟩) (Kd.R_far (p := ⟨gb236, 0, none⟩) (Kd.R_types HO196.out BK236.out (by decide)) (fun _ hk => hk.2) (.int .i64 t225)) (fun _ hk => hk.2) (.int .i64 t226)) (fun _ hk => hk.2) (.int .i64 t227)) (fun _ hk => hk.2) (.slice Ao47 t228.length co47)) (fun _ hk => hk.2) (.int .i64 t231)) (fun _ hk => hk.2) (.int .i64 t232)) (fun _ hk => hk.2) (.int .i64 t233)) (fun _ h_ => h_.1))))) (Kd.R_lt (by (with_reducible repeat (first | apply Kd.R_alloc | apply Kd.R_drewN | apply Kd.R_drew)); exact (Kd.R_mono (Kd.R_far (p := ⟨gb236, 6, none⟩) (Kd.R_far (p := ⟨gb236, 5, none⟩) (Kd.R_far (p := ⟨gb236, 4, none⟩) (Kd.R_far (p := ⟨gb236, 3, none⟩) (Kd.R_far (p := ⟨gb236, 2, none⟩) (Kd.R_far (p := ⟨gb236, 1, none⟩) (Kd.R_far (p := ⟨gb236, 0, none⟩) (Kd.R_types HO203.out BK236.out (by decide)) (fun _ hk => hk.2) (.int .i64 t225)) (fun _ hk => hk.2) (.int .i64 t226)) (fun _ hk => hk.2) (.int .i64 t227)) (fun _ hk => hk.2) (.slice Ao47 t228.length co47)) (fun _ hk => hk.2) (.int .i64 t231)) (fun _ hk => hk.2) (.int .i64 t232)) (fun _ hk => hk.2) (.int .i64 t233)) (fun _ h_ => h_.1))))) (Kd.R_lt (by (with_reducible repeat (first | apply Kd.R_alloc | apply Kd.R_drewN | apply Kd.R_drew)); exact (Kd.R_mono (Kd.R_far (p := ⟨gb236, 6, none⟩) (Kd.R_far (p := ⟨gb236, 5, none⟩) (Kd.R_far (p := ⟨gb236, 4, none⟩) (Kd.R_far (p := ⟨gb236, 3, none⟩) (Kd.R_far (p := ⟨gb236, 2, none⟩) (Kd.R_far (p := ⟨gb236, 1, none⟩) (Kd.R_far (p := ⟨gb236, 0, none⟩) (Kd.R_types HO212.out BK236.out (by decide)) (fun _ hk => hk.2) (.int .i64 t225)) (fun _ hk => hk.2) (.int .i64 t226)) (fun _ hk => hk.2) (.int .i64 t227)) (fun _ hk => hk.2) (.slice Ao47 t228.length co47)) (fun _ hk => hk.2) (.int .i64 t231)) (fun _ hk => hk.2) (.int .i64 t232)) (fun _ hk => hk.2) (.int .i64 t233)) (fun _ h_ => h_.1))))) (Kd.R_lt (by (with_reducible repeat (first | apply Kd.R_alloc | apply Kd.R_drewN | apply Kd.R_drew)); exact (Kd.R_mono (Kd.R_far (p := ⟨gb236, 6, none⟩) (Kd.R_far (p := ⟨gb236, 5, none⟩) (Kd.R_far (p := ⟨gb236, 4, none⟩) (Kd.R_far (p := ⟨gb236, 3, none⟩) (Kd.R_far (p := ⟨gb236, 2, none⟩) (Kd.R_far (p := ⟨gb236, 1, none⟩) (Kd.R_far (p := ⟨gb236, 0, none⟩) (Kd.R_types HO218.out BK236.out (by decide)) (fun _ hk => hk.2) (.int .i64 t225)) (fun _ hk => hk.2) (.int .i64 t226)) (fun _ hk => hk.2) (.int .i64 t227)) (fun _ hk => hk.2) (.slice Ao47 t228.length co47)) (fun _ hk => hk.2) (.int .i64 t231)) (fun _ hk => hk.2) (.int .i64 t232)) (fun _ hk => hk.2) (.int .i64 t233)) (fun _ h_ => h_.1))))) (Kd.R_lt (by (with_reducible repeat (first | apply Kd.R_alloc | apply Kd.R_drewN | apply Kd.R_drew)); exact (Kd.R_mono (Kd.R_far (p := ⟨gb236, 6, none⟩) (Kd.R_far (p := ⟨gb236, 5, none⟩) (Kd.R_far (p := ⟨gb236, 4, none⟩) (Kd.R_far (p := ⟨gb236, 3, none⟩) (Kd.R_far (p := ⟨gb236, 2, none⟩) (Kd.R_far (p := ⟨gb236, 1, none⟩) (Kd.R_far (p := ⟨gb236, 0, none⟩) (Kd.R_types HO230.out BK236.out (by decide)) (fun _ hk => hk.2) (.int .i64 t225)) (fun _ hk => hk.2) (.int .i64 t226)) (fun _ hk => hk.2) (.int .i64 t227)) (fun _ hk => hk.2) (.slice Ao47 t228.length co47)) (fun _ hk => hk.2) (.int .i64 t231)) (fun _ hk => hk.2) (.int .i64 t232)) (fun _ hk => hk.2) (.int .i64 t233)) (fun _ h_ => h_.1))))) (below_size (by repeat (first | (with_reducible first | exact HB.out | apply below_alloc | apply pw_below_drewN | apply below_drew1 | refine below_set ?_ GE193.out | refine below_set ?_ GE209.out | refine below_set ?_ GE224.out | refine below_set ?_ GE236.out) | exact HB.out)))); have n6_ := Aside0.mk (blk_below (g := gb193) (o := .cells #[.int .i64 3, .int .i64 3, .int .i64 5, .slice none 0 0, .int .i64 0, .int .i64 0, .int .i64 0] 38 (0, 0)) (by (with_reducible repeat (first | refine blk_drewN ?_ _ | refine blk_drew ?_ | refine blk_alloc ?_ _)); refine blk_far ?_ NB193_236.out _; refine blk_far ?_ NB193_236.out _; refine blk_far ?_ NB193_236.out _; refine blk_far ?_ NB193_236.out _; refine blk_far ?_ NB193_236.out _; refine blk_far ?_ NB193_236.out _; refine blk_far ?_ NB193_236.out _; (with_reducible repeat (first | refine blk_drewN ?_ _ | refine blk_drew ?_ | refine blk_alloc ?_ _)); exact BK193.out) hb); have n7_ := Aside0.mk (blk_below (g := gb209) (o := .cells #[.int .i64 t198, .int .i64 t199, .int .i64 t200, .slice Ao31 t201.length co31, .int .i64 t204, .int .i64 t205, .int .i64 t206] 38 (0, 0)) (by (with_reducible repeat (first | refine blk_drewN ?_ _ | refine blk_drew ?_ | refine blk_alloc ?_ _)); refine blk_far ?_ NB209_236.out _; refine blk_far ?_ NB209_236.out _; refine blk_far ?_ NB209_236.out _; refine blk_far ?_ NB209_236.out _; refine blk_far ?_ NB209_236.out _; refine blk_far ?_ NB209_236.out _; refine blk_far ?_ NB209_236.out _; (with_reducible repeat (first | refine blk_drewN ?_ _ | refine blk_drew ?_ | refine blk_alloc ?_ _)); exact BK209.out) hb); have n8_ := Aside0.mk (blk_below (g := gb224) (o := .cells #[.int .i64 t213, .int .i64 t214, .int .i64 t215, .slice Ao40 t216.length co40, .int .i64 t219, .int .i64 t220, .int .i64 t221] 38 (0, 0)) (by (with_reducible repeat (first | refine blk_drewN ?_ _ | refine blk_drew ?_ | refine blk_alloc ?_ _)); refine blk_far ?_ NB224_236.out _; refine blk_far ?_ NB224_236.out _; refine blk_far ?_ NB224_236.out _; refine blk_far ?_ NB224_236.out _; refine blk_far ?_ NB224_236.out _; refine blk_far ?_ NB224_236.out _; refine blk_far ?_ NB224_236.out _; (with_reducible repeat (first | refine blk_drewN ?_ _ | refine blk_drew ?_ | refine blk_alloc ?_ _)); exact BK224.out) hb); have n9_ := Aside0.mk (blk_below (g := gb236) (o := .cells #[.int .i64 t225, .int .i64 t226, .int .i64 t227, .slice Ao47 t228.length co47, .int .i64 t231, .int .i64 t232, .int .i64 t233] 38 (0, 0)) (by (with_reducible repeat (first | refine blk_drewN ?_ _ | refine blk_drew ?_ | refine blk_alloc ?_ _)); refine blk_put (cs := #[.int .i64 t225, .int .i64 t226, .int .i64 t227, .slice Ao47 t228.length co47, .int .i64 t231, .int .i64 t232, .int .i64 0]) ?_ 6 _ rfl; refine blk_put (cs := #[.int .i64 t225, .int .i64 t226, .int .i64 t227, .slice Ao47 t228.length co47, .int .i64 t231, .int .i64 0, .int .i64 0]) ?_ 5 _ rfl; refine blk_put (cs := #[.int .i64 t225, .int .i64 t226, .int .i64 t227, .slice Ao47 t228.length co47, .int .i64 0, .int .i64 0, .int .i64 0]) ?_ 4 _ rfl; refine blk_put (cs := #[.int .i64 t225, .int .i64 t226, .int .i64 t227, .slice none 0 0, .int .i64 0, .int .i64 0, .int .i64 0]) ?_ 3 _ rfl; refine blk_put (cs := #[.int .i64 t225, .int .i64 t226, .int .i64 0, .slice none 0 0, .int .i64 0, .int .i64 0, .int .i64 0]) ?_ 2 _ rfl; refine blk_put (cs := #[.int .i64 t225, .int .i64 0, .int .i64 0, .slice none 0 0, .int .i64 0, .int .i64 0, .int .i64 0]) ?_ 1 _ rfl; refine blk_put (cs := #[.int .i64 0, .int .i64 0, .int .i64 0, .slice none 0 0, .int .i64 0, .int .i64 0, .int .i64 0]) ?_ 0 _ rfl; (with_reducible repeat (first | refine blk_drewN ?_ _ | refine blk_drew ?_ | refine blk_alloc ?_ _)); exact BK236.out) hb); have n10_ := Cz.bs (w := w) hb; clear HO196; clear HO203; clear HO212; clear HO218; clear HO230; clear BK193; clear BK209; clear BK224; clear BK236; clear HB; have HO196 := n0_; have HO203 := n1_; have HO212 := n2_; have HO218 := n3_; have HO230 := n4_; have HO239 := n5_; have BK193 := n6_; have BK209 := n7_; have BK224 := n8_; have BK236 := n9_; have HB := n10_; clear n0_ n1_ n2_ n3_ n4_ n5_ n6_ n7_ n8_ n9_ n10_; (try clear hb); (try clear hb2); (try clear hk); (try clear hi); (try clear ho0)) | ((with_reducible refine gate_dst (N := 48) rfl ?_); refine Kd.R_make (Kd.int .u8) _ 5 rfl (N := 48) rfl 27 _ _ rfl 9 rfl rfl Try.underlying27 (.int .u8 0) 1 info5 rfl (by decide) (by omega) 0 (ok := fun _ => True) (okp := fun _ => True) rfl (fun _ hk => hk) trivial (by omega) (by omega) (Below.refl _ _) (Nat.le_refl _) ?_; intro v242 w49 ho50 hb hg_ hnew_; clear hg_ hnew_; (first | rw [← Ny241.out] at ho50 | (simp only [Int.reduceToNat] at ho50; rw [← Ny241.out] at ho50)); have n0_ := Aside0.mk (Kd.R_elder' (by (with_reducible repeat (first | apply Kd.R_alloc | apply Kd.R_drewN | apply Kd.R_drew)); exact HO196.out) (Kd.R_base ho50) hb); have n1_ := Aside0.mk (Kd.R_elder' (by (with_reducible repeat (first | apply Kd.R_alloc | apply Kd.R_drewN | apply Kd.R_drew)); exact HO203.out) (Kd.R_base ho50) hb); have n2_ := Aside0.mk (Kd.R_elder' (by (with_reducible repeat (first | apply Kd.R_alloc | apply Kd.R_drewN | apply Kd.R_drew)); exact HO212.out) (Kd.R_base ho50) hb); have n3_ := Aside0.mk (Kd.R_elder' (by (with_reducible repeat (first | apply Kd.R_alloc | apply Kd.R_drewN | apply Kd.R_drew)); exact HO218.out) (Kd.R_base ho50) hb); have n4_ := Aside0.mk (Kd.R_elder' (by (with_reducible repeat (first | apply Kd.R_alloc | apply Kd.R_drewN | apply Kd.R_drew)); exact HO230.out) (Kd.R_base ho50) hb); have n5_ := Aside0.mk (Kd.R_elder' (by (with_reducible repeat (first | apply Kd.R_alloc | apply Kd.R_drewN | apply Kd.R_drew)); exact HO239.out) (Kd.R_base ho50) hb); have n6_ := Aside0.mk (Kd.R_lower (Kd.R_new' (Kd.R_new' (Kd.R_new' (Kd.R_new' (Kd.R_new' (Kd.R_new' ho50 (Kd.R_lt (by (with_reducible repeat (first | apply Kd.R_alloc | apply Kd.R_drewN | apply Kd.R_drew)); exact HO196.out))) (Kd.R_lt (by (with_reducible repeat (first | apply Kd.R_alloc | apply Kd.R_drewN | apply Kd.R_drew)); exact HO203.out))) (Kd.R_lt (by (with_reducible repeat (first | apply Kd.R_alloc | apply Kd.R_drewN | apply Kd.R_drew)); exact HO212.out))) (Kd.R_lt (by (with_reducible repeat (first | apply Kd.R_alloc | apply Kd.R_drewN | apply Kd.R_drew)); exact HO218.out))) (Kd.R_lt (by (with_reducible repeat (first | apply Kd.R_alloc | apply Kd.R_drewN | apply Kd.R_drew)); exact HO230.out))) (Kd.R_lt (by (with_reducible repeat (first | apply Kd.R_alloc | apply Kd.R_drewN | apply Kd.R_drew)); exact HO239.out))) (below_size (by repeat (first | (with_reducible first | exact HB.out | apply below_alloc | apply pw_below_drewN | apply below_drew1 | refine below_set ?_ GE193.out | refine below_set ?_ GE209.out | refine below_set ?_ GE224.out | refine below_set ?_ GE236.out) | exact HB.out)))); have n7_ := Cz.bk BK193 hb; have n8_ := Cz.bk BK209 hb; have n9_ := Cz.bk BK224 hb; have n10_ := Cz.bk BK236 hb; have n11_ := Cz.bs (w := w) hb; clear HO196; clear HO203; clear HO212; clear HO218; clear HO230; clear HO239; clear BK193; clear BK209; clear BK224; clear BK236; clear HB; have HO196 := n0_; have HO203 := n1_; have HO212 := n2_; have HO218 := n3_; have HO230 := n4_; have HO239 := n5_; have HO243 := n6_; have BK193 := n7_; have BK209 := n8_; have BK224 := n9_; have BK236 := n10_; have HB := n11_; clear n0_ n1_ n2_ n3_ n4_ n5_ n6_ n7_ n8_ n9_ n10_ n11_; clear hb ho50; obtain ⟨Ao51, co51, eo51⟩ := Kd.R_slice HO243.out; subst eo51) | ((with_reducible refine gate_callee (f := 21) rfl ?_); refine Cz.gL (N := (some 49)) Try.func21 #[.slice Ao51 y241.length co51] ?_; (with_reducible refine (frame_Read.calls _ _ y241 t244 t245 t246 t247 t250 t251 t252 t253 t254 _ ?side1 ?side2 A7.out).mono ?_); (case side1 => repeat (first | exact (Kd.R_reads' HO243.out).2.2 | (with_reducible refine Kd.C_alloc ?_ _) | (with_reducible refine Kd.C_drewN ?_ _) | (with_reducible refine Kd.C_drew ?_))); (case side2 => exact (Kd.R_reads' HO243.out).2.1); rintro e w52 ⟨v248, rfl, ho0, hb⟩; refine ⟨_, rfl, ?_⟩; have n0_ := Aside0.mk (Kd.R_elder' (by (with_reducible repeat (first | apply Kd.R_alloc | apply Kd.R_drewN | apply Kd.R_drew)); exact HO196.out) (Kd.R_base ho0) hb); have n1_ := Aside0.mk (Kd.R_elder' (by (with_reducible repeat (first | apply Kd.R_alloc | apply Kd.R_drewN | apply Kd.R_drew)); exact HO203.out) (Kd.R_base ho0) hb); have n2_ := Aside0.mk (Kd.R_elder' (by (with_reducible repeat (first | apply Kd.R_alloc | apply Kd.R_drewN | apply Kd.R_drew)); exact HO212.out) (Kd.R_base ho0) hb); have n3_ := Aside0.mk (Kd.R_elder' (by (with_reducible repeat (first | apply Kd.R_alloc | apply Kd.R_drewN | apply Kd.R_drew)); exact HO218.out) (Kd.R_base ho0) hb); have n4_ := Aside0.mk (Kd.R_elder' (by (with_reducible repeat (first | apply Kd.R_alloc | apply Kd.R_drewN | apply Kd.R_drew)); exact HO230.out) (Kd.R_base ho0) hb); have n5_ := Aside0.mk (Kd.R_elder' (by (with_reducible repeat (first | apply Kd.R_alloc | apply Kd.R_drewN | apply Kd.R_drew)); exact HO239.out) (Kd.R_base ho0) hb); have n6_ := Aside0.mk (Kd.R_elder' (by (with_reducible repeat (first | apply Kd.R_alloc | apply Kd.R_drewN | apply Kd.R_drew)); exact HO243.out) (Kd.R_base ho0) hb); have n7_ := Aside0.mk (Kd.R_lower (Kd.R_new' (Kd.R_new' (Kd.R_new' (Kd.R_new' (Kd.R_new' (Kd.R_new' (Kd.R_new' ho0 (Kd.R_lt (by (with_reducible repeat (first | apply Kd.R_alloc | apply Kd.R_drewN | apply Kd.R_drew)); exact HO196.out))) (Kd.R_lt (by (with_reducible repeat (first | apply Kd.R_alloc | apply Kd.R_drewN | apply Kd.R_drew)); exact HO203.out))) (Kd.R_lt (by (with_reducible repeat (first | apply Kd.R_alloc | apply Kd.R_drewN | apply Kd.R_drew)); exact HO212.out))) (Kd.R_lt (by (with_reducible repeat (first | apply Kd.R_alloc | apply Kd.R_drewN | apply Kd.R_drew)); exact HO218.out))) (Kd.R_lt (by (with_reducible repeat (first | apply Kd.R_alloc | apply Kd.R_drewN | apply Kd.R_drew)); exact HO230.out))) (Kd.R_lt (by (with_reducible repeat (first | apply Kd.R_alloc | apply Kd.R_drewN | apply Kd.R_drew)); exact HO239.out))) (Kd.R_lt (by (with_reducible repeat (first | apply Kd.R_alloc | apply Kd.R_drewN | apply Kd.R_drew)); exact HO243.out))) (below_size (by repeat (first | (with_reducible first | exact HB.out | apply below_alloc | apply pw_below_drewN | apply below_drew1 | refine below_set ?_ GE193.out | refine below_set ?_ GE209.out | refine below_set ?_ GE224.out | refine below_set ?_ GE236.out) | exact HB.out)))); have n8_ := Cz.bk BK193 hb; have n9_ := Cz.bk BK209 hb; have n10_ := Cz.bk BK224 hb; have n11_ := Cz.bk BK236 hb; have n12_ := Cz.bs (w := w) hb; clear HO196; clear HO203; clear HO212; clear HO218; clear HO230; clear HO239; clear HO243; clear BK193; clear BK209; clear BK224; clear BK236; clear HB; have HO196 := n0_; have HO203 := n1_; have HO212 := n2_; have HO218 := n3_; have HO230 := n4_; have HO239 := n5_; have HO243 := n6_; have HO249 := n7_; have BK193 := n8_; have BK209 := n9_; have BK224 := n10_; have BK236 := n11_; have HB := n12_; clear n0_ n1_ n2_ n3_ n4_ n5_ n6_ n7_ n8_ n9_ n10_ n11_ n12_; (try clear hb); (try clear hb2); (try clear hk); (try clear hi); (try clear ho0)) | ((with_reducible refine gate_dst (N := 15) rfl ?_); refine box_event ?hg (N := 15) ?hd (cs := #[.int .i64 0, .int .i64 0, .int .i64 0, .slice none 0 0, .int .i64 0, .int .i64 0, .int .i64 0]) (t := 38) ?hr ?_; (case hd => rfl); (case hg => rfl); (case hr => first | (go_simp; done) | (go_simp; rfl)); intro gb255 hg w53 hbox hb; have n0_ := Cz.rb HO196 hb; have n1_ := Cz.rb HO203 hb; have n2_ := Cz.rb HO212 hb; have n3_ := Cz.rb HO218 hb; have n4_ := Cz.rb HO230 hb; have n5_ := Cz.rb HO239 hb; have n6_ := Cz.rb HO243 hb; have n7_ := Cz.rb HO249 hb; have n8_ := Cz.bk BK193 hb; have n9_ := Cz.bk BK209 hb; have n10_ := Cz.bk BK224 hb; have n11_ := Cz.bk BK236 hb; have n12_ := Cz.bs (w := w) hb; have n13_ := Aside0.mk (hbox); have n14_ := Aside0.mk ((Cz.gs hg : w.heap.size ≤ gb255)); have n15_ := Aside0.mk ((Cz.gs hg : w.heap.size ≤ gb255)); have n16_ := Aside0.mk ((Cz.nl BK193 hg : gb193 ≠ gb255)); have n17_ := Aside0.mk ((Cz.nr BK193 hg : gb255 ≠ gb193)); have n18_ := Aside0.mk ((Cz.nl BK209 hg : gb209 ≠ gb255)); have n19_ := Aside0.mk ((Cz.nr BK209 hg : gb255 ≠ gb209)); have n20_ := Aside0.mk ((Cz.nl BK224 hg : gb224 ≠ gb255)); have n21_ := Aside0.mk ((Cz.nr BK224 hg : gb255 ≠ gb224)); have n22_ := Aside0.mk ((Cz.nl BK236 hg : gb236 ≠ gb255)); have n23_ := Aside0.mk ((Cz.nr BK236 hg : gb255 ≠ gb236)); clear HO196; clear HO203; clear HO212; clear HO218; clear HO230; clear HO239; clear HO243; clear HO249; clear BK193; clear BK209; clear BK224; clear BK236; clear HB; have HO196 := n0_; have HO203 := n1_; have HO212 := n2_; have HO218 := n3_; have HO230 := n4_; have HO239 := n5_; have HO243 := n6_; have HO249 := n7_; have BK193 := n8_; have BK209 := n9_; have BK224 := n10_; have BK236 := n11_; have HB := n12_; have BK255 := n13_; have GW255 := n14_; have GE255 := n15_; have NB193_255 := n16_; have NB255_193 := n17_; have NB209_255 := n18_; have NB255_209 := n19_; have NB224_255 := n20_; have NB255_224 := n21_; have NB236_255 := n22_; have NB255_236 := n23_; clear n0_ n1_ n2_ n3_ n4_ n5_ n6_ n7_ n8_ n9_ n10_ n11_ n12_ n13_ n14_ n15_ n16_ n17_ n18_ n19_ n20_ n21_ n22_ n23_; clear hb hbox hg; have hnb54 := NB255_193.out; have hnc54 := NB193_255.out; have hnb55 := NB255_209.out; have hnc55 := NB209_255.out; have hnb56 := NB255_224.out; have hnc56 := NB224_255.out; have hnb57 := NB255_236.out; have hnc57 := NB236_255.out; obtain ⟨hcz58_0, hcz58_1, hcz58_2, hcz58_3, hcz58_4, hcz58_5, hcz58_6, hfz58_0, hfz58_1, hfz58_2, hfz58_3, hfz58_4, hfz58_5, hfz58_6⟩ := Cz.d7 BK255; obtain ⟨Ao59, co59, eo59⟩ := Kd.R_slice HO249.out; subst eo59; obtain ⟨hcz60_0, hcz60_1, hcz60_2, hcz60_3, hcz60_4, hcz60_5, hcz60_6, hfz60_0, hfz60_1, hfz60_2, hfz60_3, hfz60_4, hfz60_5, hfz60_6⟩ := Cz.d7 BK193; obtain ⟨hcz61_0, hcz61_1, hcz61_2, hcz61_3, hcz61_4, hcz61_5, hcz61_6, hfz61_0, hfz61_1, hfz61_2, hfz61_3, hfz61_4, hfz61_5, hfz61_6⟩ := Cz.d7 BK209) | ((with_reducible refine gate_callee (f := 23) rfl ?_); refine Cz.gL (N := (some 58)) Try.func23 #[.agg #[.int .i64 3, .int .i64 3, .int .i64 5, .slice none 0 0, .int .i64 0, .int .i64 0, .int .i64 0], .agg #[.int .i64 t198, .int .i64 t199, .int .i64 t200, .slice Ao31 t201.length co31, .int .i64 t204, .int .i64 t205, .int .i64 t206]] ?_; (refine (waggonerref16_Same.calls 3 3 5 _ _ ([] : List Int) 0 0 0 t198 t199 t200 _ _ t201 t204 t205 t206 true _ ?side1 ?side2 ?side3 ?side4 A9.out).mono ?_); (case side1 => exact Kd.C_nil _ _); (case side2 => exact Nat.le_refl _); (case side3 => refine (Kd.R_reads' (e := 5) (base := w.heap.size) (ok := fun k_ => (((((((True ∧ some k_ ≠ (.slice Ao26 t194.length co26 : Value).ownBlock) ∧ some k_ ≠ (.slice Ao34 y210.length co34 : Value).ownBlock) ∧ some k_ ≠ (.slice Ao40 t216.length co40 : Value).ownBlock) ∧ some k_ ≠ (.slice Ao47 t228.length co47 : Value).ownBlock) ∧ some k_ ≠ (v238 : Value).ownBlock) ∧ some k_ ≠ (.slice Ao51 y241.length co51 : Value).ownBlock) ∧ some k_ ≠ (.slice Ao59 t247.length co59 : Value).ownBlock)) (n := t201.length) (c := co31) ?_).2.2; exact (by (with_reducible repeat (first | apply Kd.R_alloc | apply Kd.R_drewN | apply Kd.R_drew)); exact (Kd.R_mono (Kd.R_far (p := ⟨gb255, 6, none⟩) (Kd.R_far (p := ⟨gb255, 5, none⟩) (Kd.R_far (p := ⟨gb255, 4, none⟩) (Kd.R_far (p := ⟨gb255, 3, none⟩) (Kd.R_far (p := ⟨gb255, 2, none⟩) (Kd.R_far (p := ⟨gb255, 1, none⟩) (Kd.R_far (p := ⟨gb255, 0, none⟩) (Kd.R_types HO203.out BK255.out (by decide)) (fun _ hk => hk.2) (.int .i64 t244)) (fun _ hk => hk.2) (.int .i64 t245)) (fun _ hk => hk.2) (.int .i64 t246)) (fun _ hk => hk.2) (.slice Ao59 t247.length co59)) (fun _ hk => hk.2) (.int .i64 t250)) (fun _ hk => hk.2) (.int .i64 t251)) (fun _ hk => hk.2) (.int .i64 t252)) (fun _ h_ => h_.1)))); (case side4 => exact (Kd.R_reads' HO203.out).2.1); rintro e w62 ⟨rfl, hb⟩; refine ⟨_, rfl, ?_⟩; have n0_ := Aside0.mk (Kd.R_below (by (with_reducible repeat (first | apply Kd.R_alloc | apply Kd.R_drewN | apply Kd.R_drew)); exact (Kd.R_mono (Kd.R_far (p := ⟨gb255, 6, none⟩) (Kd.R_far (p := ⟨gb255, 5, none⟩) (Kd.R_far (p := ⟨gb255, 4, none⟩) (Kd.R_far (p := ⟨gb255, 3, none⟩) (Kd.R_far (p := ⟨gb255, 2, none⟩) (Kd.R_far (p := ⟨gb255, 1, none⟩) (Kd.R_far (p := ⟨gb255, 0, none⟩) (Kd.R_types HO196.out BK255.out (by decide)) (fun _ hk => hk.2) (.int .i64 t244)) (fun _ hk => hk.2) (.int .i64 t245)) (fun _ hk => hk.2) (.int .i64 t246)) (fun _ hk => hk.2) (.slice Ao59 t247.length co59)) (fun _ hk => hk.2) (.int .i64 t250)) (fun _ hk => hk.2) (.int .i64 t251)) (fun _ hk => hk.2) (.int .i64 t252)) (fun _ h_ => h_.1))) hb); have n1_ := Aside0.mk (Kd.R_below (by (with_reducible repeat (first | apply Kd.R_alloc | apply Kd.R_drewN | apply Kd.R_drew)); exact (Kd.R_mono (Kd.R_far (p := ⟨gb255, 6, none⟩) (Kd.R_far (p := ⟨gb255, 5, none⟩) (Kd.R_far (p := ⟨gb255, 4, none⟩) (Kd.R_far (p := ⟨gb255, 3, none⟩) (Kd.R_far (p := ⟨gb255, 2, none⟩) (Kd.R_far (p := ⟨gb255, 1, none⟩) (Kd.R_far (p := ⟨gb255, 0, none⟩) (Kd.R_types HO203.out BK255.out (by decide)) (fun _ hk => hk.2) (.int .i64 t244)) (fun _ hk => hk.2) (.int .i64 t245)) (fun _ hk => hk.2) (.int .i64 t246)) (fun _ hk => hk.2) (.slice Ao59 t247.length co59)) (fun _ hk => hk.2) (.int .i64 t250)) (fun _ hk => hk.2) (.int .i64 t251)) (fun _ hk => hk.2) (.int .i64 t252)) (fun _ h_ => h_.1))) hb); have n2_ := Aside0.mk (Kd.R_below (by (with_reducible repeat (first | apply Kd.R_alloc | apply Kd.R_drewN | apply Kd.R_drew)); exact (Kd.R_mono (Kd.R_far (p := ⟨gb255, 6, none⟩) (Kd.R_far (p := ⟨gb255, 5, none⟩) (Kd.R_far (p := ⟨gb255, 4, none⟩) (Kd.R_far (p := ⟨gb255, 3, none⟩) (Kd.R_far (p := ⟨gb255, 2, none⟩) (Kd.R_far (p := ⟨gb255, 1, none⟩) (Kd.R_far (p := ⟨gb255, 0, none⟩) (Kd.R_types HO212.out BK255.out (by decide)) (fun _ hk => hk.2) (.int .i64 t244)) (fun _ hk => hk.2) (.int .i64 t245)) (fun _ hk => hk.2) (.int .i64 t246)) (fun _ hk => hk.2) (.slice Ao59 t247.length co59)) (fun _ hk => hk.2) (.int .i64 t250)) (fun _ hk => hk.2) (.int .i64 t251)) (fun _ hk => hk.2) (.int .i64 t252)) (fun _ h_ => h_.1))) hb); have n3_ := Aside0.mk (Kd.R_below (by (with_reducible repeat (first | apply Kd.R_alloc | apply Kd.R_drewN | apply Kd.R_drew)); exact (Kd.R_mono (Kd.R_far (p := ⟨gb255, 6, none⟩) (Kd.R_far (p := ⟨gb255, 5, none⟩) (Kd.R_far (p := ⟨gb255, 4, none⟩) (Kd.R_far (p := ⟨gb255, 3, none⟩) (Kd.R_far (p := ⟨gb255, 2, none⟩) (Kd.R_far (p := ⟨gb255, 1, none⟩) (Kd.R_far (p := ⟨gb255, 0, none⟩) (Kd.R_types HO218.out BK255.out (by decide)) (fun _ hk => hk.2) (.int .i64 t244)) (fun _ hk => hk.2) (.int .i64 t245)) (fun _ hk => hk.2) (.int .i64 t246)) (fun _ hk => hk.2) (.slice Ao59 t247.length co59)) (fun _ hk => hk.2) (.int .i64 t250)) (fun _ hk => hk.2) (.int .i64 t251)) (fun _ hk => hk.2) (.int .i64 t252)) (fun _ h_ => h_.1))) hb); have n4_ := Aside0.mk (Kd.R_below (by (with_reducible repeat (first | apply Kd.R_alloc | apply Kd.R_drewN | apply Kd.R_drew)); exact (Kd.R_mono (Kd.R_far (p := ⟨gb255, 6, none⟩) (Kd.R_far (p := ⟨gb255, 5, none⟩) (Kd.R_far (p := ⟨gb255, 4, none⟩) (Kd.R_far (p := ⟨gb255, 3, none⟩) (Kd.R_far (p := ⟨gb255, 2, none⟩) (Kd.R_far (p := ⟨gb255, 1, none⟩) (Kd.R_far (p := ⟨gb255, 0, none⟩) (Kd.R_types HO230.out BK255.out (by decide)) (fun _ hk => hk.2) (.int .i64 t244)) (fun _ hk => hk.2) (.int .i64 t245)) (fun _ hk => hk.2) (.int .i64 t246)) (fun _ hk => hk.2) (.slice Ao59 t247.length co59)) (fun _ hk => hk.2) (.int .i64 t250)) (fun _ hk => hk.2) (.int .i64 t251)) (fun _ hk => hk.2) (.int .i64 t252)) (fun _ h_ => h_.1))) hb); have n5_ := Aside0.mk (Kd.R_below (by (with_reducible repeat (first | apply Kd.R_alloc | apply Kd.R_drewN | apply Kd.R_drew)); exact (Kd.R_mono (Kd.R_far (p := ⟨gb255, 6, none⟩) (Kd.R_far (p := ⟨gb255, 5, none⟩) (Kd.R_far (p := ⟨gb255, 4, none⟩) (Kd.R_far (p := ⟨gb255, 3, none⟩) (Kd.R_far (p := ⟨gb255, 2, none⟩) (Kd.R_far (p := ⟨gb255, 1, none⟩) (Kd.R_far (p := ⟨gb255, 0, none⟩) (Kd.R_types HO239.out BK255.out (by decide)) (fun _ hk => hk.2) (.int .i64 t244)) (fun _ hk => hk.2) (.int .i64 t245)) (fun _ hk => hk.2) (.int .i64 t246)) (fun _ hk => hk.2) (.slice Ao59 t247.length co59)) (fun _ hk => hk.2) (.int .i64 t250)) (fun _ hk => hk.2) (.int .i64 t251)) (fun _ hk => hk.2) (.int .i64 t252)) (fun _ h_ => h_.1))) hb); have n6_ := Aside0.mk (Kd.R_below (by (with_reducible repeat (first | apply Kd.R_alloc | apply Kd.R_drewN | apply Kd.R_drew)); exact (Kd.R_mono (Kd.R_far (p := ⟨gb255, 6, none⟩) (Kd.R_far (p := ⟨gb255, 5, none⟩) (Kd.R_far (p := ⟨gb255, 4, none⟩) (Kd.R_far (p := ⟨gb255, 3, none⟩) (Kd.R_far (p := ⟨gb255, 2, none⟩) (Kd.R_far (p := ⟨gb255, 1, none⟩) (Kd.R_far (p := ⟨gb255, 0, none⟩) (Kd.R_types HO243.out BK255.out (by decide)) (fun _ hk => hk.2) (.int .i64 t244)) (fun _ hk => hk.2) (.int .i64 t245)) (fun _ hk => hk.2) (.int .i64 t246)) (fun _ hk => hk.2) (.slice Ao59 t247.length co59)) (fun _ hk => hk.2) (.int .i64 t250)) (fun _ hk => hk.2) (.int .i64 t251)) (fun _ hk => hk.2) (.int .i64 t252)) (fun _ h_ => h_.1))) hb); have n7_ := Aside0.mk (Kd.R_below (by (with_reducible repeat (first | apply Kd.R_alloc | apply Kd.R_drewN | apply Kd.R_drew)); exact (Kd.R_mono (Kd.R_far (p := ⟨gb255, 6, none⟩) (Kd.R_far (p := ⟨gb255, 5, none⟩) (Kd.R_far (p := ⟨gb255, 4, none⟩) (Kd.R_far (p := ⟨gb255, 3, none⟩) (Kd.R_far (p := ⟨gb255, 2, none⟩) (Kd.R_far (p := ⟨gb255, 1, none⟩) (Kd.R_far (p := ⟨gb255, 0, none⟩) (Kd.R_types HO249.out BK255.out (by decide)) (fun _ hk => hk.2) (.int .i64 t244)) (fun _ hk => hk.2) (.int .i64 t245)) (fun _ hk => hk.2) (.int .i64 t246)) (fun _ hk => hk.2) (.slice Ao59 t247.length co59)) (fun _ hk => hk.2) (.int .i64 t250)) (fun _ hk => hk.2) (.int .i64 t251)) (fun _ hk => hk.2) (.int .i64 t252)) (fun _ h_ => h_.1))) hb); have n8_ := Aside0.mk (blk_below (g := gb193) (o := .cells #[.int .i64 3, .int .i64 3, .int .i64 5, .slice none 0 0, .int .i64 0, .int .i64 0, .int .i64 0] 38 (0, 0)) (by (with_reducible repeat (first | refine blk_drewN ?_ _ | refine blk_drew ?_ | refine blk_alloc ?_ _)); refine blk_far ?_ NB193_255.out _; refine blk_far ?_ NB193_255.out _; refine blk_far ?_ NB193_255.out _; refine blk_far ?_ NB193_255.out _; refine blk_far ?_ NB193_255.out _; refine blk_far ?_ NB193_255.out _; refine blk_far ?_ NB193_255.out _; (with_reducible repeat (first | refine blk_drewN ?_ _ | refine blk_drew ?_ | refine blk_alloc ?_ _)); exact BK193.out) hb); have n9_ := Aside0.mk (blk_below (g := gb209) (o := .cells #[.int .i64 t198, .int .i64 t199, .int .i64 t200, .slice Ao31 t201.length co31, .int .i64 t204, .int .i64 t205, .int .i64 t206] 38 (0, 0)) (by (with_reducible repeat (first | refine blk_drewN ?_ _ | refine blk_drew ?_ | refine blk_alloc ?_ _)); refine blk_far ?_ NB209_255.out _; refine blk_far ?_ NB209_255.out _; refine blk_far ?_ NB209_255.out _; refine blk_far ?_ NB209_255.out _; refine blk_far ?_ NB209_255.out _; refine blk_far ?_ NB209_255.out _; refine blk_far ?_ NB209_255.out _; (with_reducible repeat (first | refine blk_drewN ?_ _ | refine blk_drew ?_ | refine blk_alloc ?_ _)); exact BK209.out) hb); have n10_ := Aside0.mk (blk_below (g := gb224) (o := .cells #[.int .i64 t213, .int .i64 t214, .int .i64 t215, .slice Ao40 t216.length co40, .int .i64 t219, .int .i64 t220, .int .i64 t221] 38 (0, 0)) (by (with_reducible repeat (first | refine blk_drewN ?_ _ | refine blk_drew ?_ | refine blk_alloc ?_ _)); refine blk_far ?_ NB224_255.out _; refine blk_far ?_ NB224_255.out _; refine blk_far ?_ NB224_255.out _; refine blk_far ?_ NB224_255.out _; refine blk_far ?_ NB224_255.out _; refine blk_far ?_ NB224_255.out _; refine blk_far ?_ NB224_255.out _; (with_reducible repeat (first | refine blk_drewN ?_ _ | refine blk_drew ?_ | refine blk_alloc ?_ _)); exact BK224.out) hb); have n11_ := Aside0.mk (blk_below (g := gb236) (o := .cells #[.int .i64 t225, .int .i64 t226, .int .i64 t227, .slice Ao47 t228.length co47, .int .i64 t231, .int .i64 t232, .int .i64 t233] 38 (0, 0)) (by (with_reducible repeat (first | refine blk_drewN ?_ _ | refine blk_drew ?_ | refine blk_alloc ?_ _)); refine blk_far ?_ NB236_255.out _; refine blk_far ?_ NB236_255.out _; refine blk_far ?_ NB236_255.out _; refine blk_far ?_ NB236_255.out _; refine blk_far ?_ NB236_255.out _; refine blk_far ?_ NB236_255.out _; refine blk_far ?_ NB236_255.out _; (with_reducible repeat (first | refine blk_drewN ?_ _ | refine blk_drew ?_ | refine blk_alloc ?_ _)); exact BK236.out) hb); have n12_ := Aside0.mk (blk_below (g := gb255) (o := .cells #[.int .i64 t244, .int .i64 t245, .int .i64 t246, .slice Ao59 t247.length co59, .int .i64 t250, .int .i64 t251, .int .i64 t252] 38 (0, 0)) (by (with_reducible repeat (first | refine blk_drewN ?_ _ | refine blk_drew ?_ | refine blk_alloc ?_ _)); refine blk_put (cs := #[.int .i64 t244, .int .i64 t245, .int .i64 t246, .slice Ao59 t247.length co59, .int .i64 t250, .int .i64 t251, .int .i64 0]) ?_ 6 _ rfl; refine blk_put (cs := #[.int .i64 t244, .int .i64 t245, .int .i64 t246, .slice Ao59 t247.length co59, .int .i64 t250, .int .i64 0, .int .i64 0]) ?_ 5 _ rfl; refine blk_put (cs := #[.int .i64 t244, .int .i64 t245, .int .i64 t246, .slice Ao59 t247.length co59, .int .i64 0, .int .i64 0, .int .i64 0]) ?_ 4 _ rfl; refine blk_put (cs := #[.int .i64 t244, .int .i64 t245, .int .i64 t246, .slice none 0 0, .int .i64 0, .int .i64 0, .int .i64 0]) ?_ 3 _ rfl; refine blk_put (cs := #[.int .i64 t244, .int .i64 t245, .int .i64 0, .slice none 0 0, .int .i64 0, .int .i64 0, .int .i64 0]) ?_ 2 _ rfl; refine blk_put (cs := #[.int .i64 t244, .int .i64 0, .int .i64 0, .slice none 0 0, .int .i64 0, .int .i64 0, .int .i64 0]) ?_ 1 _ rfl; refine blk_put (cs := #[.int .i64 0, .int .i64 0, .int .i64 0, .slice none 0 0, .int .i64 0, .int .i64 0, .int .i64 0]) ?_ 0 _ rfl; (with_reducible repeat (first | refine blk_drewN ?_ _ | refine blk_drew ?_ | refine blk_alloc ?_ _)); exact BK255.out) hb); have n13_ := Cz.bs (w := w) hb; clear HO196; clear HO203; clear HO212; clear HO218; clear HO230; clear HO239; clear HO243; clear HO249; clear BK193; clear BK209; clear BK224; clear BK236; clear BK255; clear HB; have HO196 := n0_; have HO203 := n1_; have HO212 := n2_; have HO218 := n3_; have HO230 := n4_; have HO239 := n5_; have HO243 := n6_; have HO249 := n7_; have BK193 := n8_; have BK209 := n9_; have BK224 := n10_; have BK236 := n11_; have BK255 := n12_; have HB := n13_; clear n0_ n1_ n2_ n3_ n4_ n5_ n6_ n7_ n8_ n9_ n10_ n11_ n12_ n13_; (try clear hb); (try clear hb2); (try clear hk); (try clear hi)))
              have n0_ := Aside0.mk (Kd.R_drew HO196.out)
              have n1_ := Aside0.mk (Kd.R_drew HO203.out)
              have n2_ := Aside0.mk (Kd.R_drew HO212.out)
              have n3_ := Aside0.mk (Kd.R_drew HO218.out)
              have n4_ := Aside0.mk (Kd.R_drew HO230.out)
              have n5_ := Aside0.mk (Kd.R_drew HO239.out)
              have n6_ := Aside0.mk (Kd.R_drew HO243.out)
              have n7_ := Aside0.mk (Kd.R_drew HO249.out)
              have n8_ := Aside0.mk (blk_drew BK193.out)
              have n9_ := Aside0.mk (blk_drew BK209.out)
              have n10_ := Aside0.mk (blk_drew BK224.out)
              have n11_ := Aside0.mk (blk_drew BK236.out)
              have n12_ := Aside0.mk (blk_drew BK255.out)
              have n13_ := Aside0.mk (below_drew1 HB.out)
              clear HO196
              clear HO203
              clear HO212
              clear HO218
              clear HO230
              clear HO239
              clear HO243
              clear HO249
              clear BK193
              clear BK209
              clear BK224
              clear BK236
              clear BK255
              clear HB
              have HO196 := n0_
              have HO203 := n1_
              have HO212 := n2_
              have HO218 := n3_
              have HO230 := n4_
              have HO239 := n5_
              have HO243 := n6_
              have HO249 := n7_
              have BK193 := n8_
              have BK209 := n9_
              have BK224 := n10_
              have BK236 := n11_
              have BK255 := n12_
              have HB := n13_
              clear n0_ n1_ n2_ n3_ n4_ n5_ n6_ n7_ n8_ n9_ n10_ n11_ n12_ n13_
              have q64 : (5 : Int) ≤ ((t194.length : Int) : Int) := of_decide_eq_true (by first | (with_reducible assumption) | assumption)
              obtain ⟨i064, hi064, _, hsz64, _⟩ := info_parts info5
              have hroom64 : t194.length ≤ co26 := (Kd.R_reads' HO196.out).2.1
              have hC64 : Kd.C (Kd.int .u8) _ Ao26 t194.length t194 := (Kd.R_reads' HO196.out).2.2
              have hcut64 := cut_to (P := Try.prog) 27 5 .i64 Try.underlying27 hi064 Ao26 t194.length co26 5 (by omega) q64 hroom64
              have hr64 := Kd.C_take (m := 5) hC64 (by omega)
              have hy64 : y257.length = (5 : Int).toNat := (by rw [Ny257.out, List.length_take]; omega)
              rw [← Ny257.out] at hr64
              rw [← hy64] at hcut64
              have HR260 := Aside0.mk hr64
              have HC260 := Aside0.mk (show y257.length ≤ co26 from by omega)
              clear hr64 hC64 hroom64 hi064 hsz64
              have KY64 := Aside0.mk hy64
              clear hy64
              have KL64 := Aside0.mk (show 5 ≤ t194.length from by omega)
              replace q64 := eq_true q64
              refine start_ (n := 47) (S := fun w' => w'.cell? ⟨gb193, 0, none⟩ = some (.int .i64 3) ∧ w'.cell? ⟨gb193, 1, none⟩ = some (.int .i64 3) ∧ w'.cell? ⟨gb193, 2, none⟩ = some (.int .i64 5) ∧ w'.cell? ⟨gb193, 3, none⟩ = some (.slice none 0 0) ∧ w'.cell? ⟨gb193, 4, none⟩ = some (.int .i64 0) ∧ w'.cell? ⟨gb193, 5, none⟩ = some (.int .i64 0) ∧ w'.cell? ⟨gb193, 6, none⟩ = some (.int .i64 0) ∧ (convert 27 9 (.slice Ao26 y257.length co26)).run Try.prog w' = .ok (.string (strOfNums y257)) w') (ds := []) #[false, false, false, false, false, false, false, false, false, false, false, false, false, false, false, false, false, false, false, false, false, false, false, false, false, false, false, false, false, false, false, false, false, false, false, false, false, false, false, false, false, false, false, false, false, false, false] (by kernel_rfl) rfl rfl ⟨(blk_cell BK193.out 0).trans rfl, (blk_cell BK193.out 1).trans rfl, (blk_cell BK193.out 2).trans rfl, (blk_cell BK193.out 3).trans rfl, (blk_cell BK193.out 4).trans rfl, (blk_cell BK193.out 5).trans rfl, (blk_cell BK193.out 6).trans rfl, (Kd.C_string (P := Try.prog) (A := Ao26) (c := co26) Try.underlying27 Try.underlying5 Try.underlying9 (by repeat (first | (with_reducible exact HR260.out) | (with_reducible refine Kd.C_alloc ?_ _) | (with_reducible refine Kd.C_drewN ?_ _) | (with_reducible refine Kd.C_drew ?_) | exact HR260.out)))⟩ (fun hHeld => ?_); refine with_tabW waggonerlaw16_awake_p.tab11 waggonerlaw16_awake_p.bits11 (fun HT_ HW_ => ?_)
              generalize w62.drew = w63 at HO196 HO203 HO212 HO218 HO230 HO239 HO243 HO249 BK193 BK209 BK224 BK236 BK255 HB HR260 hHeld ⊢
              refine Cz.qP 0 59 HT_ ?_
              refine Cz.qP 1 60 HT_ ?_
              refine Cz.qT 2 61 HT_ HW_ hHeld ?_
              refine Cz.qO (N := some 62) 3 HT_ (fun K hK => ?_)
              refine Kd.R_lit_step (Kd.int .u8) _ 5 ?hg (N := 62) ?hd (xs := ([3, 2, 0, 3, 5] : List Int)) (inner := [.int .u8 3, .int .u8 2, .int .u8 0, .int .u8 3, .int .u8 5]) (ok := fun _ => True) (okp := fun _ => True) ?hr ?hp (fun _ hk => hk) trivial (Below.refl _ _) (Nat.le_refl _) (by simp) ?_; (case hd => rfl); (case hg => rfl); (case hr => first | (go_simp; done) | (go_simp; rfl)); (case hp => exact (Reps.one (show Kd.M (Kd.int .u8) _ _ _ 3 [.int .u8 3] from rfl) (Reps.one (show Kd.M (Kd.int .u8) _ _ _ 2 [.int .u8 2] from rfl) (Reps.one (show Kd.M (Kd.int .u8) _ _ _ 0 [.int .u8 0] from rfl) (Reps.one (show Kd.M (Kd.int .u8) _ _ _ 3 [.int .u8 3] from rfl) (Reps.one (show Kd.M (Kd.int .u8) _ _ _ 5 [.int .u8 5] from rfl) (Reps.none _ _)))))))
              intro v262 w65 ho66 hb hg_ hnew_
              clear hg_ hnew_
              (first | rw [← Ny261.out] at ho66 | (simp only [Int.reduceToNat] at ho66; rw [← Ny261.out] at ho66))
              have n0_ := Aside0.mk (Kd.R_elder' (by (with_reducible repeat (first | apply Kd.R_alloc | apply Kd.R_drewN | apply Kd.R_drew)); exact HO196.out) (Kd.R_base ho66) hb)
              have n1_ := Aside0.mk (Kd.R_elder' (by (with_reducible repeat (first | apply Kd.R_alloc | apply Kd.R_drewN | apply Kd.R_drew)); exact HO203.out) (Kd.R_base ho66) hb)
              have n2_ := Aside0.mk (Kd.R_elder' (by (with_reducible repeat (first | apply Kd.R_alloc | apply Kd.R_drewN | apply Kd.R_drew)); exact HO212.out) (Kd.R_base ho66) hb)
              have n3_ := Aside0.mk (Kd.R_elder' (by (with_reducible repeat (first | apply Kd.R_alloc | apply Kd.R_drewN | apply Kd.R_drew)); exact HO218.out) (Kd.R_base ho66) hb)
              have n4_ := Aside0.mk (Kd.R_elder' (by (with_reducible repeat (first | apply Kd.R_alloc | apply Kd.R_drewN | apply Kd.R_drew)); exact HO230.out) (Kd.R_base ho66) hb)
              have n5_ := Aside0.mk (Kd.R_elder' (by (with_reducible repeat (first | apply Kd.R_alloc | apply Kd.R_drewN | apply Kd.R_drew)); exact HO239.out) (Kd.R_base ho66) hb)
              have n6_ := Aside0.mk (Kd.R_elder' (by (with_reducible repeat (first | apply Kd.R_alloc | apply Kd.R_drewN | apply Kd.R_drew)); exact HO243.out) (Kd.R_base ho66) hb)
              have n7_ := Aside0.mk (Kd.R_elder' (by (with_reducible repeat (first | apply Kd.R_alloc | apply Kd.R_drewN | apply Kd.R_drew)); exact HO249.out) (Kd.R_base ho66) hb)
              have n8_ := Aside0.mk (Kd.R_lower (Kd.R_new' (Kd.R_new' (Kd.R_new' (Kd.R_new' (Kd.R_new' (Kd.R_new' (Kd.R_new' (Kd.R_new' ho66 (Kd.R_lt (by (with_reducible repeat (first | apply Kd.R_alloc | apply Kd.R_drewN | apply Kd.R_drew)); exact HO196.out))) (Kd.R_lt (by (with_reducible repeat (first | apply Kd.R_alloc | apply Kd.R_drewN | apply Kd.R_drew)); exact HO203.out))) (Kd.R_lt (by (with_reducible repeat (first | apply Kd.R_alloc | apply Kd.R_drewN | apply Kd.R_drew)); exact HO212.out))) (Kd.R_lt (by (with_reducible repeat (first | apply Kd.R_alloc | apply Kd.R_drewN | apply Kd.R_drew)); exact HO218.out))) (Kd.R_lt (by (with_reducible repeat (first | apply Kd.R_alloc | apply Kd.R_drewN | apply Kd.R_drew)); exact HO230.out))) (Kd.R_lt (by (with_reducible repeat (first | apply Kd.R_alloc | apply Kd.R_drewN | apply Kd.R_drew)); exact HO239.out))) (Kd.R_lt (by (with_reducible repeat (first | apply Kd.R_alloc | apply Kd.R_drewN | apply Kd.R_drew)); exact HO243.out))) (Kd.R_lt (by (with_reducible repeat (first | apply Kd.R_alloc | apply Kd.R_drewN | apply Kd.R_drew)); exact HO249.out))) (below_size (by repeat (first | (with_reducible first | exact HB.out | apply below_alloc | apply pw_below_drewN | apply below_drew1 | refine below_set ?_ GE193.out | refine below_set ?_ GE209.out | refine below_set ?_ GE224.out | refine below_set ?_ GE236.out | refine below_set ?_ GE255.out) | exact HB.out))))
              have n9_ := Cz.bk BK193 hb
              have n10_ := Cz.bk BK209 hb
              have n11_ := Cz.bk BK224 hb
              have n12_ := Cz.bk BK236 hb
              have n13_ := Cz.bk BK255 hb
              have n14_ := Aside0.mk (Kd.C_below (by repeat (first | (with_reducible exact HR260.out) | (with_reducible refine Kd.C_alloc ?_ _) | (with_reducible refine Kd.C_drewN ?_ _) | (with_reducible refine Kd.C_drew ?_) | exact HR260.out)) hb)
              have n15_ := Cz.bs (w := w) hb
              clear HO196
              clear HO203
              clear HO212
              clear HO218
              clear HO230
              clear HO239
              clear HO243
              clear HO249
              clear BK193
              clear BK209
              clear BK224
              clear BK236
              clear BK255
              clear HR260
              clear HB
              have HO196 := n0_
              have HO203 := n1_
              have HO212 := n2_
              have HO218 := n3_
              have HO230 := n4_
              have HO239 := n5_
              have HO243 := n6_
              have HO249 := n7_
              have HO263 := n8_
              have BK193 := n9_
              have BK209 := n10_
              have BK224 := n11_
              have BK236 := n12_
              have BK255 := n13_
              have HR260 := n14_
              have HB := n15_
              clear n0_ n1_ n2_ n3_ n4_ n5_ n6_ n7_ n8_ n9_ n10_ n11_ n12_ n13_ n14_ n15_
              clear hb ho66
              refine hK.out _ _ ⟨(blk_cell BK193.out 0).trans rfl, (blk_cell BK193.out 1).trans rfl, (blk_cell BK193.out 2).trans rfl, (blk_cell BK193.out 3).trans rfl, (blk_cell BK193.out 4).trans rfl, (blk_cell BK193.out 5).trans rfl, (blk_cell BK193.out 6).trans rfl, (Kd.C_string (P := Try.prog) (A := Ao26) (c := co26) Try.underlying27 Try.underlying5 Try.underlying9 (by repeat (first | (with_reducible exact HR260.out) | (with_reducible refine Kd.C_alloc ?_ _) | (with_reducible refine Kd.C_drewN ?_ _) | (with_reducible refine Kd.C_drew ?_) | exact HR260.out)))⟩ (fun hHeld => ?_)
              clear hK K
              refine norm_ (a' := ?_) ?_ ?_
              rotate_left
              ·show Act.put _ (some 62) _ = _
               simp only [Act.put, Kx.sb, Kx.sz, Kx.ss, i64_w, i32_w]
               rfl
              refine Cz.qO (N := some 63) 4 HT_ (fun K hK => ?_)
              have hcv67 := own_string (P := Try.prog) Try.underlying27 Try.underlying5 Try.underlying9 (Kd.own_of_R HO263.out)
              refine value_ (w1 := ?_) (v := ?_) (by rfl) rfl ?_ ?_
              rotate_left 2
              ·go_simp
               constructor
               ·rfl
               ·rfl
              clear hcv67
              refine hK.out _ _ ⟨(blk_cell BK193.out 0).trans rfl, (blk_cell BK193.out 1).trans rfl, (blk_cell BK193.out 2).trans rfl, (blk_cell BK193.out 3).trans rfl, (blk_cell BK193.out 4).trans rfl, (blk_cell BK193.out 5).trans rfl, (blk_cell BK193.out 6).trans rfl, (Kd.C_string (P := Try.prog) (A := Ao26) (c := co26) Try.underlying27 Try.underlying5 Try.underlying9 (by repeat (first | (with_reducible exact HR260.out) | (with_reducible refine Kd.C_alloc ?_ _) | (with_reducible refine Kd.C_drewN ?_ _) | (with_reducible refine Kd.C_drew ?_) | exact HR260.out)))⟩ (fun hHeld => ?_)
              clear hK K
              refine norm_ (a' := ?_) ?_ ?_
              rotate_left
              ·show Act.put _ (some 63) _ = _
               simp only [Act.put, Kx.sb, Kx.sz, Kx.ss, i64_w, i32_w]
               rfl
              refine Cz.qP 5 64 HT_ ?_
              refine Cz.qP 6 65 HT_ ?_
              refine Cz.qP 7 66 HT_ ?_
              refine Cz.qP 8 67 HT_ ?_
              refine Cz.qP 9 68 HT_ ?_
              refine Cz.qP 10 69 HT_ ?_
              refine Cz.qP 11 70 HT_ ?_
              refine Cz.qP 12 71 HT_ ?_
              refine Cz.qP 13 72 HT_ ?_
              refine Cz.qP 14 73 HT_ ?_
              refine Cz.qP 15 74 HT_ ?_
              refine Cz.qP 16 75 HT_ ?_
              refine Cz.qP 17 76 HT_ ?_
              refine Cz.qP 18 77 HT_ ?_
              refine Cz.qP 19 78 HT_ ?_
              refine Cz.qP 20 79 HT_ ?_
              refine Cz.qP 21 80 HT_ ?_
              refine Cz.qP 22 81 HT_ ?_
              refine Cz.qP 23 82 HT_ ?_
              refine Cz.qP 24 83 HT_ ?_
              refine Cz.qP 25 84 HT_ ?_
              refine Cz.qP 26 85 HT_ ?_
              refine Cz.qP 27 86 HT_ ?_
              refine Cz.qP 28 87 HT_ ?_
              refine Cz.qP 29 88 HT_ ?_
              refine Cz.qP 30 89 HT_ ?_
              refine Cz.qP 31 90 HT_ ?_
              refine Cz.qP 32 91 HT_ ?_
              refine Cz.qP 33 92 HT_ ?_
              refine Cz.qP 34 93 HT_ ?_
              refine Cz.qP 35 94 HT_ ?_
              refine Cz.qP 36 95 HT_ ?_
              refine Cz.qP 37 96 HT_ ?_
              refine Cz.qT 38 97 HT_ HW_ hHeld ?_
              refine Cz.qO (N := some 98) 39 HT_ (fun K hK => ?_)
              refine Cz.gO Try.func24 #[.agg #[.int .i64 3, .int .i64 3, .int .i64 5, .slice none 0 0, .int .i64 0, .int .i64 0, .int .i64 0]] ?_
              refine (frame_Check.calls 3 3 5 _ _ ([] : List Int) 0 0 0 true _ ?side1 ?side2 A20.out).mono ?_
              (case side1 => exact Kd.C_nil _ _)
              (case side2 => exact Nat.le_refl _)
              rintro e w68 ⟨rfl, hb⟩
              refine ⟨_, rfl, ?_⟩
              have n0_ := Cz.rb HO196 hb
              have n1_ := Cz.rb HO203 hb
              have n2_ := Cz.rb HO212 hb
              have n3_ := Cz.rb HO218 hb
              have n4_ := Cz.rb HO230 hb
              have n5_ := Cz.rb HO239 hb
              have n6_ := Cz.rb HO243 hb
              have n7_ := Cz.rb HO249 hb
              have n8_ := Cz.rb HO263 hb
              have n9_ := Cz.bk BK193 hb
              have n10_ := Cz.bk BK209 hb
              have n11_ := Cz.bk BK224 hb
              have n12_ := Cz.bk BK236 hb
              have n13_ := Cz.bk BK255 hb
              have n14_ := Aside0.mk (Kd.C_below (by repeat (first | (with_reducible exact HR260.out) | (with_reducible refine Kd.C_alloc ?_ _) | (with_reducible refine Kd.C_drewN ?_ _) | (with_reducible refine Kd.C_drew ?_) | exact HR260.out)) hb)
              have n15_ := Cz.bs (w := w) hb
              clear HO196
              clear HO203
              clear HO212
              clear HO218
              clear HO230
              clear HO239
              clear HO243
              clear HO249
              clear HO263
              clear BK193
              clear BK209
              clear BK224
              clear BK236
              clear BK255
              clear HR260
              clear HB
              have HO196 := n0_
              have HO203 := n1_
              have HO212 := n2_
              have HO218 := n3_
              have HO230 := n4_
              have HO239 := n5_
              have HO243 := n6_
              have HO249 := n7_
              have HO263 := n8_
              have BK193 := n9_
              have BK209 := n10_
              have BK224 := n11_
              have BK236 := n12_
              have BK255 := n13_
              have HR260 := n14_
              have HB := n15_
              clear n0_ n1_ n2_ n3_ n4_ n5_ n6_ n7_ n8_ n9_ n10_ n11_ n12_ n13_ n14_ n15_
              (try clear hb)
              (try clear hb2)
              (try clear hk)
              (try clear hi)
              refine hK.out _ _ ⟨(blk_cell BK193.out 0).trans rfl, (blk_cell BK193.out 1).trans rfl, (blk_cell BK193.out 2).trans rfl, (blk_cell BK193.out 3).trans rfl, (blk_cell BK193.out 4).trans rfl, (blk_cell BK193.out 5).trans rfl, (blk_cell BK193.out 6).trans rfl, (Kd.C_string (P := Try.prog) (A := Ao26) (c := co26) Try.underlying27 Try.underlying5 Try.underlying9 (by repeat (first | (with_reducible exact HR260.out) | (with_reducible refine Kd.C_alloc ?_ _) | (with_reducible refine Kd.C_drewN ?_ _) | (with_reducible refine Kd.C_drew ?_) | exact HR260.out)))⟩ (fun hHeld => ?_)
              clear hK K
              refine norm_ (a' := ?_) ?_ ?_
              rotate_left
              ·show Act.put _ (some 98) _ = _
               simp only [Act.put, Kx.sb, Kx.sz, Kx.ss, i64_w, i32_w]
               rfl
              refine Cz.qP 40 99 HT_ ?_
              refine Cz.qP 41 100 HT_ ?_
              refine Cz.qP 42 101 HT_ ?_
              refine Cz.qO (N := some 102) 43 HT_ (fun K hK => ?_)
              refine Cz.gO Try.func24 #[.agg #[.int .i64 6, .int .i64 0, .int .i64 0, .slice none 0 0, .int .i64 0, .int .i64 0, .int .i64 0]] ?_
              refine (frame_Check.calls 6 0 0 _ _ ([] : List Int) 0 0 0 t265 _ ?side1 ?side2 A22.out).mono ?_
              (case side1 => exact Kd.C_nil _ _)
              (case side2 => exact Nat.le_refl _)
              rintro e w69 ⟨rfl, hb⟩
              refine ⟨_, rfl, ?_⟩
              have n0_ := Cz.rb HO196 hb
              have n1_ := Cz.rb HO203 hb
              have n2_ := Cz.rb HO212 hb
              have n3_ := Cz.rb HO218 hb
              have n4_ := Cz.rb HO230 hb
              have n5_ := Cz.rb HO239 hb
              have n6_ := Cz.rb HO243 hb
              have n7_ := Cz.rb HO249 hb
              have n8_ := Cz.rb HO263 hb
              have n9_ := Cz.bk BK193 hb
              have n10_ := Cz.bk BK209 hb
              have n11_ := Cz.bk BK224 hb
              have n12_ := Cz.bk BK236 hb
              have n13_ := Cz.bk BK255 hb
              have n14_ := Aside0.mk (Kd.C_below (by repeat (first | (with_reducible exact HR260.out) | (with_reducible refine Kd.C_alloc ?_ _) | (with_reducible refine Kd.C_drewN ?_ _) | (with_reducible refine Kd.C_drew ?_) | exact HR260.out)) hb)
              have n15_ := Cz.bs (w := w) hb
              clear HO196
              clear HO203
              clear HO212
              clear HO218
              clear HO230
              clear HO239
              clear HO243
              clear HO249
              clear HO263
              clear BK193
              clear BK209
              clear BK224
              clear BK236
              clear BK255
              clear HR260
              clear HB
              have HO196 := n0_
              have HO203 := n1_
              have HO212 := n2_
              have HO218 := n3_
              have HO230 := n4_
              have HO239 := n5_
              have HO243 := n6_
              have HO249 := n7_
              have HO263 := n8_
              have BK193 := n9_
              have BK209 := n10_
              have BK224 := n11_
              have BK236 := n12_
              have BK255 := n13_
              have HR260 := n14_
              have HB := n15_
              clear n0_ n1_ n2_ n3_ n4_ n5_ n6_ n7_ n8_ n9_ n10_ n11_ n12_ n13_ n14_ n15_
              (try clear hb)
              (try clear hb2)
              (try clear hk)
              (try clear hi)
              refine hK.out _ _ ⟨(blk_cell BK193.out 0).trans rfl, (blk_cell BK193.out 1).trans rfl, (blk_cell BK193.out 2).trans rfl, (blk_cell BK193.out 3).trans rfl, (blk_cell BK193.out 4).trans rfl, (blk_cell BK193.out 5).trans rfl, (blk_cell BK193.out 6).trans rfl, (Kd.C_string (P := Try.prog) (A := Ao26) (c := co26) Try.underlying27 Try.underlying5 Try.underlying9 (by repeat (first | (with_reducible exact HR260.out) | (with_reducible refine Kd.C_alloc ?_ _) | (with_reducible refine Kd.C_drewN ?_ _) | (with_reducible refine Kd.C_drew ?_) | exact HR260.out)))⟩ (fun hHeld => ?_)
              clear hK K
              refine norm_ (a' := ?_) ?_ ?_
              rotate_left
              ·show Act.put _ (some 102) _ = _
               simp only [Act.put, Kx.sb, Kx.sz, Kx.ss, i64_w, i32_w]
               rfl
              refine Cz.qP 44 103 HT_ ?_
              refine Cz.qP 45 104 HT_ ?_
              refine Cz.qP 46 0 HT_ ?_
              refine done_ (done_of HT_.out (by kernel_rfl)) ?_
              try go_wp2
              go_ret
              exact ⟨by first | rfl | (exact congrArg (fun z_ => Ending.returned (Value.bool z_)) HRT.out) | (rw [HRT.out]; done) | (simp [errW_none, errW_some] <;> rfl) | (simp [*, errW_none, errW_some] <;> rfl), by repeat (first | (with_reducible first | exact HB.out | apply below_alloc | apply pw_below_drewN | apply below_drew1 | refine below_set ?_ GE193.out | refine below_set ?_ GE209.out | refine below_set ?_ GE224.out | refine below_set ?_ GE236.out | refine below_set ?_ GE255.out) | exact HB.out)⟩
             ·replace c21 := Bool.eq_false_iff.mpr c21
              subst c21
              have H1 : (some false) = some true := by rw [if_neg (show ¬ (false = true) by decide)] at H <;> exact H
              exact absurd H1 (by simp)
            ·rw [if_neg c19] at H
             first | exact absurd H (by simp; done) | skip
           ·rw [if_neg c18] at H
            first | exact absurd H (by simp; done) | skip
          ·rw [if_neg c17] at H
           first | exact absurd H (by simp; done) | skip
         ·rw [if_neg c16] at H
          first | exact absurd H (by simp; done) | skip
        ·rw [if_neg c15] at H
         first | exact absurd H (by simp; done) | skip
       ·rw [if_neg c14] at H
        first | exact absurd H (by simp; done) | skip
      ·replace c13 := Bool.eq_false_iff.mpr c13
       subst c13
       have H1 : (some false) = some true := by rw [if_neg (show ¬ (false = true) by decide)] at H <;> exact H
       exact absurd H1 (by simp)
     ·rw [if_neg c12] at H
      first | exact absurd H (by simp; done) | skip
    ·rw [if_neg c11] at H
     first | exact absurd H (by simp; done) | skip
   ·rw [if_neg c10] at H
    exact absurd H (by simp)
  ·rw [if_neg c8] at H
   first | exact absurd H (by simp; done) | skip
 ·rw [if_neg c6] at H
  exact absurd H (by simp)
end Go.Proofs.Ytohkmmbmfhficaa.PU
