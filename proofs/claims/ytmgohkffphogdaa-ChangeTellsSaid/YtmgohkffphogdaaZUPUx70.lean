/- Words and walks that this claim names, of those that the kit's print and programs of this workplace have printed. -/
import Derived.Test.YtmgohkffphogdaaZUCz
import Derived.Test.YtmgohkffphogdaaZUPUx15
import Derived.Test.YtmgohkffphogdaaZUPUx24
import Derived.Test.YtmgohkffphogdaaZUPUx31
import Derived.Test.YtmgohkffphogdaaZUPUx38
import Derived.Test.YtmgohkffphogdaaZUPUx40
import Derived.Test.YtmgohkffphogdaaZUPUx45
import Derived.Test.YtmgohkffphogdaaZUPUx57
import Derived.Test.YtmgohkffphogdaaZUPUx65
import Derived.Test.YtmgohkffphogdaaZUPUx69
namespace Go.Proofs.Ytmgohkffphogdaa.PU
open Go.Proofs.Ytmgohkffphogdaa Go.RowKit Go.Proofs.YtmgohkffphogdaaW.PrintWords Go.Proofs.YtmgohkffphogdaaW.PrintLast Go.Proofs.YtmgohkffphogdaaW.PrintMore
attribute [local go_sem] max2_int min2_int max_two min_two max_three min_three max_four min_four
set_option linter.unusedVariables false
set_option linter.unusedSimpArgs false
def waggonerlaw10_ChangeTells.j0 : Nat → List Int → Bool → Bool → Int → Int → Int → Int → List Int → List (S39) → Option (Bool)
 | 0, _, _, _, _, _, _, _, _, _ => none
 | k + 1, x1, x5, x23, x384000, x384001, x384002, x384003, x384004, x384005 => if x23 = true then (some x5) else ((change_Write.f x384000 x384001 x384002 x384003 x384004 x384005).bind fun bt386 => ((waggonerref10_Write.f x384000 x384001 x384002 x384003 x384004 x384005).bind fun bt390 => ((change_Read.f x1).bind fun bt394 => ((waggonerref10_Read.f x1).bind fun bt406 => ((waggonerref10_Same.f bt394.1 bt394.2.1 bt394.2.2.1 bt394.2.2.2.1 bt394.2.2.2.2.1 bt394.2.2.2.2.2.1 bt406.1 bt406.2.1 bt406.2.2.1 bt406.2.2.2.1 bt406.2.2.2.2.1 bt406.2.2.2.2.2.1).bind fun t418 => (if x5 = true then ((change_Check.f x384000 x384001 x384002 x384003 x384004 x384005).bind fun t419 => ((waggonerref10_Check.f x384000 x384001 x384002 x384003 x384004 x384005).bind fun t420 => (if (t419 == t420) = true then (if (strOfNums bt386.1).toList = (strOfNums bt390.1).toList then (if bt386.2 = bt390.2 then (if t418 = true then (some (bt394.2.2.2.2.2.2 == bt406.2.2.2.2.2.2)) else (some false)) else (some false)) else (some false)) else (some false)))) else (some false)))))))
def waggonerlaw10_ChangeTells.f (k : Nat) (a0_0 : Int) (a0_1 : Int) (a0_2 : Int) (a0_3 : Int) (l0_4 : List Int) (l0_5 : List (S39)) (l1 : List Int) : Option (Bool) := (waggonerlaw10_awake.f).bind fun t384 => ((waggonerlaw10_Few.f a0_0 a0_1 a0_2 a0_3 l0_4 l0_5).bind fun t385 => (if t385 = true then (waggonerlaw10_ChangeTells.j0 k l1 t384 (decide ((l1.length : Int) > 5000)) a0_0 a0_1 a0_2 a0_3 l0_4 l0_5) else (waggonerlaw10_ChangeTells.j0 k l1 t384 true a0_0 a0_1 a0_2 a0_3 l0_4 l0_5)))
def waggonerlaw10_ChangeTells.T9 : Bool × List (List Nat × List Nat) := (true, [([], []), ([0], [0]), ([1], [1]), ([2, 1, 1], [1, 2]), ([1], [1]), ([4, 3, 1], [1, 4]), ([3, 5, 1], [1, 3, 5]), ([1, 6], [1, 6]), ([7, 5], [7]), ([8], [8]), ([9, 8], [8, 9]), ([8], [8]), ([11, 8], [8, 11]), ([10, 12, 8], [8, 10, 12]), ([8, 13], [8, 13]), ([14, 8], [14]), ([15], [15]), ([15], [15]), ([16, 17, 15], [15, 16, 17]), ([15, 18], [15, 18]), ([19, 15], [19]), ([20], [20]), ([20, 21], [20, 21]), ([22, 20], [22]), ([23], [23]), ([23], [23]), ([24, 25, 23], [23, 24, 25]), ([23, 26], [23, 26]), ([27, 23, 0, 1, 2, 3, 4, 5, 6, 7, 8, 9, 10, 11, 12, 13, 14, 15, 16, 17, 18, 19, 20, 21, 22, 23, 24, 25, 26, 27], [27])])
def waggonerlaw10_ChangeTells.B9 : List Nat := [0, 1, 3, 7, 3, 31, 63, 127, 255, 511, 1023, 511, 2559, 8191, 16383, 32767, 65535, 65535, 262143, 524287, 1048575, 2097151, 4194303, 8388607, 16777215, 16777215, 67108863, 134217727, 268435455]
theorem waggonerlaw10_ChangeTells.tab9 : rtab .any (opsOf Try.f4 9) = waggonerlaw10_ChangeTells.T9 := by kernel_rfl
theorem waggonerlaw10_ChangeTells.bits9 : waitsOk waggonerlaw10_ChangeTells.T9.2 waggonerlaw10_ChangeTells.B9 = true := by kernel_rfl
set_option maxHeartbeats 8000000 in
set_option maxRecDepth 100000 in
theorem waggonerlaw10_ChangeTells.calls (k : Nat) (a0_0 : Int) (a0_1 : Int) (a0_2 : Int) (a0_3 : Int) (A0_4 : Option Addr) (c0_4 : Nat) (l0_4 : List Int) (A0_5 : Option Addr) (c0_5 : Nat) (l0_5 : List (S39)) (A1 : Option Addr) (c1 : Nat) (l1 : List Int) (r : Bool) (hT : r = true) (w : World) (hr0_4 : Kd.C (Kd.int .u8) w A0_4 l0_4.length l0_4) (hc0_4 : l0_4.length ≤ c0_4) (hr0_5 : Kd.C k39 w A0_5 l0_5.length l0_5) (hc0_5 : l0_5.length ≤ c0_5) (hr1 : Kd.C (Kd.int .u8) w A1 l1.length l1) (hc1 : l1.length ≤ c1) (h : waggonerlaw10_ChangeTells.f k a0_0 a0_1 a0_2 a0_3 l0_4 l0_5 l1 = some r) :
  Calls Try.prog 4 #[.agg #[.int .i64 a0_0, .int .i64 a0_1, .int .i64 a0_2, .int .i64 a0_3, .slice A0_4 l0_4.length c0_4, .slice A0_5 l0_5.length c0_5], .slice A1 l1.length c1] w fun e w' => e = .returned (.bool r) ∧ Below w.heap.size w w' := by
 subst hT
 have hu26 := Try.underlying26
 have HR0_4 := Aside0.mk hr0_4
 have HC0_4 := Aside0.mk hc0_4
 clear hr0_4 hc0_4
 have HR0_5 := Aside0.mk hr0_5
 have HC0_5 := Aside0.mk hc0_5
 clear hr0_5 hc0_5
 have HR1 := Aside0.mk hr1
 have HC1 := Aside0.mk hc1
 clear hr1 hc1
 have HB := Aside0.mk (Below.refl w.heap.size w)
 have H : ((waggonerlaw10_awake.f).bind fun t384 => ((waggonerlaw10_Few.f a0_0 a0_1 a0_2 a0_3 l0_4 l0_5).bind fun t385 => (if t385 = true then (waggonerlaw10_ChangeTells.j0 k l1 t384 (decide ((l1.length : Int) > 5000)) a0_0 a0_1 a0_2 a0_3 l0_4 l0_5) else (waggonerlaw10_ChangeTells.j0 k l1 t384 true a0_0 a0_1 a0_2 a0_3 l0_4 l0_5)))) = some true := h
 clear h
 replace H := Option.bind_eq_some_iff.mp H
 obtain ⟨t384, A30, H⟩ := H
 (try dsimp only at H)
 have A3 := Aside0.mk A30
 clear A30
 have HC4 := Aside0.mk H
 clear H
 go_enter Try.func4, Try.ntmps4
 go_upto_region 2 with (first | ((with_reducible refine gate_dst (N := 2) rfl ?_); (try (refine gate_guard (by rfl) ?_; dsimp only)); refine Cz.bx (N := 2) #[.int .i64 a0_0, .int .i64 a0_1, .int .i64 a0_2, .int .i64 a0_3, .slice A0_4 l0_4.length c0_4, .slice A0_5 l0_5.length c0_5] 26 ?_; intro gb383 hg w5 hbox hb; have BK383 := Aside0.mk (hbox); have GW383 := Aside0.mk ((Cz.gs hg : w.heap.size ≤ gb383)); have GE383 := GW383; replace HB := Cz.bs (w := w) hb; clear hb hbox hg) | ((with_reducible refine gate_callee (f := 9) rfl ?_); refine Cz.gL (N := (some 15)) Try.func9 #[] ?_; (with_reducible refine (waggonerlaw10_awake.calls  t384 _ A3.out).mono ?_); rintro e w6 ⟨rfl, hb⟩; refine ⟨_, rfl, ?_⟩; replace BK383 := Cz.bk BK383 hb; replace HB := Cz.bs (w := w) hb; (try clear hb)))
 (try simp only [Act.put, Kx.sb, Kx.sz, Kx.ss])
 go_cut [23] (fun v23 wc => ∃ (kq : Nat) (x23_3 : Bool), v23 = .bool x23_3 ∧ Aside0 (waggonerlaw10_ChangeTells.j0 kq l1 t384 x23_3 a0_0 a0_1 a0_2 a0_3 l0_4 l0_5 = some true) ∧ Aside0 (kq ≤ k) ∧ Aside0 (wc.heap[gb383]? = some (.cells #[.int .i64 a0_0, .int .i64 a0_1, .int .i64 a0_2, .int .i64 a0_3, (.slice A0_4 l0_4.length c0_4), (.slice A0_5 l0_5.length c0_5)] 26 (0, 0))) ∧ Aside0 (Below w.heap.size w wc))
 case first =>
  have H := HC4.out
  clear HC4
  replace H := Option.bind_eq_some_iff.mp H
  obtain ⟨t385, A70, H⟩ := H
  (try dsimp only at H)
  have A7 := Aside0.mk A70
  clear A70
  by_cases c8 : t385 = true
  ·subst c8
   rw [if_pos rfl] at H
   have H' := Aside0.mk H
   clear H
   obtain ⟨z9_0, z9_1, z9_2, z9_3, z9_4, z9_5, y9_0, y9_1, y9_2, y9_3, y9_4, y9_5⟩ := Cz.d6 BK383
   go_wp2_with (first | ((with_reducible refine gate_callee (f := 10) rfl ?_); refine Cz.gL (N := (some 17)) Try.func10 #[.agg #[.int .i64 a0_0, .int .i64 a0_1, .int .i64 a0_2, .int .i64 a0_3, .slice A0_4 l0_4.length c0_4, .slice A0_5 l0_5.length c0_5]] ?_; (with_reducible refine (waggonerlaw10_Few.calls a0_0 a0_1 a0_2 a0_3 _ _ l0_4 _ _ l0_5 true _ ?side1 ?side2 ?side3 ?side4 A7.out).mono ?_); (case side1 => exact Cz.cb HR0_4); (case side2 => exact HC0_4.out); (case side3 => exact Cz.cb HR0_5); (case side4 => exact HC0_5.out); rintro e w10 ⟨rfl, hb⟩; refine ⟨_, rfl, ?_⟩; replace BK383 := Cz.bk BK383 hb; replace HB := Cz.bs (w := w) hb; (try clear hb)))
   go_meet
   case rel => exact ⟨_, (decide ((l1.length : Int) > 5000)), Cz.si, H', ⟨by first | omega | exact Nat.le_refl _⟩, ⟨by (with_reducible repeat (first | refine blk_drewN ?_ _ | refine blk_drew ?_ | refine blk_alloc ?_ _)); exact BK383.out⟩, ⟨Cz.bl (w := w)⟩⟩
  ·replace c8 := Bool.eq_false_iff.mpr c8
   subst c8
   rw [if_neg (show ¬ (false = true) by decide)] at H
   have H' := Aside0.mk H
   clear H
   obtain ⟨z11_0, z11_1, z11_2, z11_3, z11_4, z11_5, y11_0, y11_1, y11_2, y11_3, y11_4, y11_5⟩ := Cz.d6 BK383
   go_wp2_with (first | ((with_reducible refine gate_callee (f := 10) rfl ?_); refine Cz.gL (N := (some 17)) Try.func10 #[.agg #[.int .i64 a0_0, .int .i64 a0_1, .int .i64 a0_2, .int .i64 a0_3, .slice A0_4 l0_4.length c0_4, .slice A0_5 l0_5.length c0_5]] ?_; (with_reducible refine (waggonerlaw10_Few.calls a0_0 a0_1 a0_2 a0_3 _ _ l0_4 _ _ l0_5 false _ ?side1 ?side2 ?side3 ?side4 A7.out).mono ?_); (case side1 => exact Cz.cb HR0_4); (case side2 => exact HC0_4.out); (case side3 => exact Cz.cb HR0_5); (case side4 => exact HC0_5.out); rintro e w12 ⟨rfl, hb⟩; refine ⟨_, rfl, ?_⟩; replace BK383 := Cz.bk BK383 hb; replace HB := Cz.bs (w := w) hb; (try clear hb)))
   go_meet
   case rel => exact ⟨_, (true), Cz.si, H', ⟨by first | omega | exact Nat.le_refl _⟩, ⟨by (with_reducible repeat (first | refine blk_drewN ?_ _ | refine blk_drew ?_ | refine blk_alloc ?_ _)); exact BK383.out⟩, ⟨Cz.bl (w := w)⟩⟩
 case rest =>
  clear HC4
  try clear c1
  try clear p2
  try clear c4
  try clear c8
  try clear c9
  try clear c10
  try clear z11_0 z11_1 z11_2 z11_3 z11_4 z11_5 y11_0 y11_1 y11_2 y11_3 y11_4 y11_5
  try clear z9_0 z9_1 z9_2 z9_3 z9_4 z9_5 y9_0 y9_1 y9_2 y9_3 y9_4 y9_5
  obtain ⟨kq, x23_3, rfl, HA, HJ3, BK383, HB⟩ := hcut
  cases kq with
  | zero => exact absurd HA.out (by simp [waggonerlaw10_ChangeTells.j0])
  | succ kj3 =>
   have H := HA.out
   clear HA
   simp only [waggonerlaw10_ChangeTells.j0] at H
   by_cases c13 : x23_3 = true
   ·subst c13
    rw [if_pos rfl] at H
    (have HRT := Aside0.mk (Option.some.inj H); clear H)
    go_wp2
    go_ret
    exact ⟨by first | rfl | (exact congrArg (fun z_ => Ending.returned (Value.bool z_)) HRT.out) | (rw [HRT.out]; done) | (simp [errW_none, errW_some] <;> rfl) | (simp [*, errW_none, errW_some] <;> rfl), Cz.bl (w := w)⟩
   ·replace c13 := Bool.eq_false_iff.mpr c13
    subst c13
    rw [if_neg (show ¬ (false = true) by decide)] at H
    replace H := Option.bind_eq_some_iff.mp H
    obtain ⟨⟨t386, t389⟩, A140, H⟩ := H
    (try dsimp only at H)
    have A14 := Aside0.mk A140
    clear A140
    replace H := Option.bind_eq_some_iff.mp H
    obtain ⟨⟨t390, t393⟩, A150, H⟩ := H
    (try dsimp only at H)
    have A15 := Aside0.mk A150
    clear A150
    replace H := Option.bind_eq_some_iff.mp H
    obtain ⟨⟨t394, t395, t396, t397, t398, t401, t404⟩, A160, H⟩ := H
    (try dsimp only at H)
    have A16 := Aside0.mk A160
    clear A160
    replace H := Option.bind_eq_some_iff.mp H
    obtain ⟨⟨t406, t407, t408, t409, t410, t413, t416⟩, A170, H⟩ := H
    (try dsimp only at H)
    have A17 := Aside0.mk A170
    clear A170
    replace H := Option.bind_eq_some_iff.mp H
    obtain ⟨t418, A180, H⟩ := H
    (try dsimp only at H)
    have A18 := Aside0.mk A180
    clear A180
    by_cases c19 : t384 = true
    ·subst c19
     rw [if_pos rfl] at H
     replace H := Option.bind_eq_some_iff.mp H
     obtain ⟨t419, A200, H⟩ := H
     (try dsimp only at H)
     have A20 := Aside0.mk A200
     clear A200
     replace H := Option.bind_eq_some_iff.mp H
     obtain ⟨t420, A210, H⟩ := H
     (try dsimp only at H)
     have A21 := Aside0.mk A210
     clear A210
     by_cases c22 : (t419 == t420) = true
     ·rw [if_pos c22] at H
      have c22b0 : (t419 == t420) = true := c22
      (try (have c22b1 : decide (t419 = t420) = true := by simpa using c22))
      (try (have c22b2 : (t419 == t420) = true := by simpa using c22))
      clear c22
      by_cases c23 : (strOfNums t386).toList = (strOfNums t390).toList
      ·rw [if_pos c23] at H
       have c23b0 : ((strOfNums t386).toList == (strOfNums t390).toList) = true := beq_iff_eq.mpr c23
       have c23b1 : ((strOfNums t386).toList != (strOfNums t390).toList) = false := bne_eq_false_iff_eq.mpr c23
       clear c23
       by_cases c24 : t389 = t393
       ·rw [if_pos c24] at H
        have c24b0 : (t389 == t393) = true := beq_iff_eq.mpr c24
        have c24b1 : (t389 != t393) = false := bne_eq_false_iff_eq.mpr c24
        clear c24
        by_cases c25 : t418 = true
        ·subst c25
         rw [if_pos rfl] at H
         (have HRT := Aside0.mk (Option.some.inj H); clear H)
         obtain ⟨z26_0, z26_1, z26_2, z26_3, z26_4, z26_5, y26_0, y26_1, y26_2, y26_3, y26_4, y26_5⟩ := Cz.d6 BK383
         try go_wp2_with (first | ((with_reducible refine gate_callee (f := 11) rfl ?_); refine Cz.gL (N := (some 27)) Try.func11 #[.agg #[.int .i64 a0_0, .int .i64 a0_1, .int .i64 a0_2, .int .i64 a0_3, .slice A0_4 l0_4.length c0_4, .slice A0_5 l0_5.length c0_5]] ?_; (with_reducible refine (change_Write.calls a0_0 a0_1 a0_2 a0_3 _ _ l0_4 _ _ l0_5 t386 t389 _ ?side1 ?side2 ?side3 ?side4 A14.out).mono ?_); (case side1 => exact Cz.cb HR0_4); (case side2 => exact HC0_4.out); (case side3 => exact Cz.cb HR0_5); (case side4 => exact HC0_5.out); rintro e w27 ⟨v387, rfl, ho0, hb⟩; refine ⟨_, rfl, ?_⟩; have HO388 := Aside0.mk (Kd.R_lower ho0 (below_size (Cz.bl (w := w)))); replace BK383 := Cz.bk BK383 hb; replace HB := Cz.bs (w := w) hb; (try clear hb); (try clear ho0); obtain ⟨z28_0, z28_1, z28_2, z28_3, z28_4, z28_5, y28_0, y28_1, y28_2, y28_3, y28_4, y28_5⟩ := Cz.d6 BK383) | ((with_reducible refine gate_callee (f := 12) rfl ?_); refine Cz.gL (N := (some 32)) Try.func12 #[.agg #[.int .i64 a0_0, .int .i64 a0_1, .int .i64 a0_2, .int .i64 a0_3, .slice A0_4 l0_4.length c0_4, .slice A0_5 l0_5.length c0_5]] ?_; (with_reducible refine (waggonerref10_Write.calls a0_0 a0_1 a0_2 a0_3 _ _ l0_4 _ _ l0_5 t390 t393 _ ?side1 ?side2 ?side3 ?side4 A15.out).mono ?_); (case side1 => exact Cz.cb HR0_4); (case side2 => exact HC0_4.out); (case side3 => exact Cz.cb HR0_5); (case side4 => exact HC0_5.out); rintro e w29 ⟨v391, rfl, ho0, hb⟩; refine ⟨_, rfl, ?_⟩; have HO392 := Aside0.mk (Kd.R_lower (Kd.R_new' ho0 (Kd.R_lt (by (with_reducible repeat (first | apply Kd.R_alloc | apply Kd.R_drewN | apply Kd.R_drew)); exact HO388.out))) (below_size (Cz.bl (w := w)))); replace HO388 := Aside0.mk (Kd.R_elder' (Cz.rq HO388) (Kd.R_base ho0) hb); replace BK383 := Cz.bk BK383 hb; replace HB := Cz.bs (w := w) hb; (try clear hb); (try clear ho0)) | ((with_reducible refine gate_callee (f := 13) rfl ?_); refine Cz.gL (N := (some 37)) Try.func13 #[.slice A1 l1.length c1] ?_; (with_reducible refine (change_Read.calls _ _ l1 t394 t395 t396 t397 t398 t401 t404 _ ?side1 ?side2 A16.out).mono ?_); (case side1 => exact Cz.cb HR1); (case side2 => exact HC1.out); rintro e w30 ⟨v399, v402, rfl, ho0, ho1, hb⟩; refine ⟨_, rfl, ?_⟩; have HO400 := Aside0.mk (Kd.R_lower (Kd.R_new' (Kd.R_new' ho0 (Kd.R_lt (by (with_reducible repeat (first | apply Kd.R_alloc | apply Kd.R_drewN | apply Kd.R_drew)); exact HO388.out))) (Kd.R_lt (by (with_reducible repeat (first | apply Kd.R_alloc | apply Kd.R_drewN | apply Kd.R_drew)); exact HO392.out))) (below_size (Cz.bl (w := w)))); have HO403 := Aside0.mk (Kd.S_lower (Kd.S_new' (Kd.S_new' ho1 (Kd.R_lt (by (with_reducible repeat (first | apply Kd.R_alloc | apply Kd.R_drewN | apply Kd.R_drew)); exact HO388.out))) (Kd.R_lt (by (with_reducible repeat (first | apply Kd.R_alloc | apply Kd.R_drewN | apply Kd.R_drew)); exact HO392.out))) (below_size (Cz.bl (w := w)))); replace HO388 := Aside0.mk (Kd.R_elder' (Cz.rq HO388) (Kd.R_base ho0) hb); replace HO392 := Aside0.mk (Kd.R_elder' (Cz.rq HO392) (Kd.R_base ho0) hb); replace BK383 := Cz.bk BK383 hb; replace HB := Cz.bs (w := w) hb; (try clear hb); (try clear ho0); (try clear ho1)) | ((with_reducible refine gate_dst (N := 10) rfl ?_); (try (refine gate_guard (by rfl) ?_; dsimp only)); refine Cz.bx (N := 10) #[.int .i64 0, .int .i64 0, .int .i64 0, .int .i64 0, .slice none 0 0, .slice none 0 0] 26 ?_; intro gb405 hg w31 hbox hb; have BK405 := Aside0.mk (hbox); have GW405 := Aside0.mk ((Cz.gs hg : w.heap.size ≤ gb405)); have GE405 := GW405; have NB383_405 := Aside0.mk ((Cz.nl BK383 hg : gb383 ≠ gb405)); have NB405_383 := Aside0.mk ((Cz.nr BK383 hg : gb405 ≠ gb383)); replace HO388 := Cz.rb HO388 hb; replace HO392 := Cz.rb HO392 hb; replace HO400 := Cz.rb HO400 hb; replace HO403 := Cz.sb HO403 hb; replace BK383 := Cz.bk BK383 hb; replace HB := Cz.bs (w := w) hb; clear hb hbox hg; have hnb32 := NB405_383.out; have hnc32 := NB383_405.out; obtain ⟨z33_0, z33_1, z33_2, z33_3, z33_4, z33_5, y33_0, y33_1, y33_2, y33_3, y33_4, y33_5⟩ := Cz.d6 BK405; obtain ⟨Ao34, co34, eo34⟩ := Kd.R_slice HO400.out; subst eo34; obtain ⟨Ao35, co35, eo35⟩ := Kd.S_slice HO403.out; subst eo35) | ((with_reducible refine gate_callee (f := 14) rfl ?_); refine Cz.gL (N := (some 42)) Try.func14 #[.slice A1 l1.length c1] ?_; (with_reducible refine (waggonerref10_Read.calls _ _ l1 t406 t407 t408 t409 t410 t413 t416 _ ?side1 ?side2 A17.out).mono ?_); (case side1 => exact Kd.C_below HR1.out (Cz.bl (w := w))); (case side2 => exact HC1.out); rintro e w36 ⟨v411, v414, rfl, ho0, ho1, hb⟩; refine ⟨_, rfl, ?_⟩; have HO412 := Aside0.mk (Kd.R_lower (Kd.R_new' (Kd.R_new' (Kd.R_new' ho0 (Kd.R_lt (by (with_reducible repeat (first | apply Kd.R_alloc | apply Kd.R_drewN | apply Kd.R_drew)); exact (Kd.R_mono (Cz.rf (Cz.rf (Cz.rf (Cz.rf (Cz.rf (Cz.rf (Kd.R_types HO388.out BK405.out (by decide)))))))) (fun _ h_ => h_.1))))) (Kd.R_lt (by (with_reducible repeat (first | apply Kd.R_alloc | apply Kd.R_drewN | apply Kd.R_drew)); exact (Kd.R_mono (Cz.rf (Cz.rf (Cz.rf (Cz.rf (Cz.rf (Cz.rf (Kd.R_types HO392.out BK405.out (by decide)))))))) (fun _ h_ => h_.1))))) (Kd.R_lt (by (with_reducible repeat (first | apply Kd.R_alloc | apply Kd.R_drewN | apply Kd.R_drew)); exact (Kd.R_mono (Cz.rf (Cz.rf (Cz.rf (Cz.rf (Cz.rf (Cz.rf (Kd.R_types HO400.out BK405.out (by decide)))))))) (fun _ h_ => h_.1))))) (below_size (Cz.bl (w := w)))); have HO415 := Aside0.mk (Kd.S_lower (Kd.S_new' (Kd.S_new' (Kd.S_new' (Kd.S_new' ho1 (Kd.R_lt (by (with_reducible repeat (first | apply Kd.R_alloc | apply Kd.R_drewN | apply Kd.R_drew)); exact (Kd.R_mono (Cz.rf (Cz.rf (Cz.rf (Cz.rf (Cz.rf (Cz.rf (Kd.R_types HO388.out BK405.out (by decide)))))))) (fun _ h_ => h_.1))))) (Kd.R_lt (by (with_reducible repeat (first | apply Kd.R_alloc | apply Kd.R_drewN | apply Kd.R_drew)); exact (Kd.R_mono (Cz.rf (Cz.rf (Cz.rf (Cz.rf (Cz.rf (Cz.rf (Kd.R_types HO392.out BK405.out (by decide)))))))) (fun _ h_ => h_.1))))) (Kd.R_lt (by (with_reducible repeat (first | apply Kd.R_alloc | apply Kd.R_drewN | apply Kd.R_drew)); exact (Kd.R_mono (Cz.rf (Cz.rf (Cz.rf (Cz.rf (Cz.rf (Cz.rf (Kd.R_types HO400.out BK405.out (by decide)))))))) (fun _ h_ => h_.1))))) (Kd.S_lt (by (with_reducible repeat (first | apply Kd.S_alloc | apply Kd.S_drewN | apply Kd.S_drew)); exact (Kd.S_mono (Cz.sf (Cz.sf (Cz.sf (Cz.sf (Cz.sf (Cz.sf (Kd.S_types HO403.out BK405.out (by decide)))))))) (fun _ h_ => h_.1))))) (below_size (Cz.bl (w := w)))); replace HO388 := Aside0.mk (Kd.R_elder' (by (with_reducible repeat (first | apply Kd.R_alloc | apply Kd.R_drewN | apply Kd.R_drew)); exact (Kd.R_mono (Cz.rf (Cz.rf (Cz.rf (Cz.rf (Cz.rf (Cz.rf (Kd.R_types HO388.out BK405.out (by decide)))))))) (fun _ h_ => h_.1))) (Kd.R_base ho0) hb); replace HO392 := Aside0.mk (Kd.R_elder' (by (with_reducible repeat (first | apply Kd.R_alloc | apply Kd.R_drewN | apply Kd.R_drew)); exact (Kd.R_mono (Cz.rf (Cz.rf (Cz.rf (Cz.rf (Cz.rf (Cz.rf (Kd.R_types HO392.out BK405.out (by decide)))))))) (fun _ h_ => h_.1))) (Kd.R_base ho0) hb); replace HO400 := Aside0.mk (Kd.R_elder' (by (with_reducible repeat (first | apply Kd.R_alloc | apply Kd.R_drewN | apply Kd.R_drew)); exact (Kd.R_mono (Cz.rf (Cz.rf (Cz.rf (Cz.rf (Cz.rf (Cz.rf (Kd.R_types HO400.out BK405.out (by decide)))))))) (fun _ h_ => h_.1))) (Kd.R_base ho0) hb); replace HO403 := Aside0.mk (Kd.S_mono (Kd.S_told (Kd.S_told (Kd.S_old (by (with_reducible repeat (first | apply Kd.S_alloc | apply Kd.S_drewN | apply Kd.S_drew)); exact (Kd.S_mono (Cz.sf (Cz.sf (Cz.sf (Cz.sf (Cz.sf (Cz.sf (Kd.S_types HO403.out BK405.out (by decide)))))))) (fun _ h_ => h_.1))) hb) (Kd.R_base ho0)) (Kd.S_base ho1)) (fun _ h_ => h_.1)); replace BK383 := Aside0.mk (blk_below (g := gb383) (o := .cells #[.int .i64 a0_0, .int .i64 a0_1, .int .i64 a0_2, .int .i64 a0_3, .slice A0_4 l0_4.length c0_4, .slice A0_5 l0_5.length c0_5] 26 (0, 0)) (by (with_reducible repeat (first | refine blk_drewN ?_ _ | refine blk_drew ?_ | refine blk_alloc ?_ _)); refine blk_far ?_ NB383_405.out _; refine blk_far ?_ NB383_405.out _; refine blk_far ?_ NB383_405.out _; refine blk_far ?_ NB383_405.out _; refine blk_far ?_ NB383_405.out _; refine blk_far ?_ NB383_405.out _; (with_reducible repeat (first | refine blk_drewN ?_ _ | refine blk_drew ?_ | refine blk_alloc ?_ _)); exact BK383.out) hb); replace BK405 := Aside0.mk (blk_below (g := gb405) (o := .cells #[.int .i64 t394, .int .i64 t395, .int .i64 t396, .int .i64 t397, .slice Ao34 t398.length co34, .slice Ao35 t401.length co35] 26 (0, 0)) (by (with_reducible repeat (first | refine blk_drewN ?_ _ | refine blk_drew ?_ | refine blk_alloc ?_ _)); apply Cz.a6; (with_reducible repeat (first | refine blk_drewN ?_ _ | refine blk_drew ?_ | refine blk_alloc ?_ _)); exact BK405.out) hb); replace HB := Cz.bs (w := w) hb; (try clear hb); (try clear hk); (try clear ho0); (try clear ho1)) | ((with_reducible refine gate_dst (N := 12) rfl ?_); (try (refine gate_guard (by rfl) ?_; dsimp only)); refine Cz.bx (N := 12) #[.int .i64 0, .int .i64 0, .int .i64 0, .int .i64 0, .slice none 0 0, .slice none 0 0] 26 ?_; intro gb417 hg w37 hbox hb; have BK417 := Aside0.mk (hbox); have GW417 := Aside0.mk ((Cz.gs hg : w.heap.size ≤ gb417)); have GE417 := GW417; have NB383_417 := Aside0.mk ((Cz.nl BK383 hg : gb383 ≠ gb417)); have NB417_383 := Aside0.mk ((Cz.nr BK383 hg : gb417 ≠ gb383)); have NB405_417 := Aside0.mk ((Cz.nl BK405 hg : gb405 ≠ gb417)); have NB417_405 := Aside0.mk ((Cz.nr BK405 hg : gb417 ≠ gb405)); replace HO388 := Cz.rb HO388 hb; replace HO392 := Cz.rb HO392 hb; replace HO400 := Cz.rb HO400 hb; replace HO403 := Cz.sb HO403 hb; replace HO412 := Cz.rb HO412 hb; replace HO415 := Cz.sb HO415 hb; replace BK383 := Cz.bk BK383 hb; replace BK405 := Cz.bk BK405 hb; replace HB := Cz.bs (w := w) hb; clear hb hbox hg; have hnb38 := NB417_383.out; have hnc38 := NB383_417.out; have hnb39 := NB417_405.out; have hnc39 := NB405_417.out; obtain ⟨z40_0, z40_1, z40_2, z40_3, z40_4, z40_5, y40_0, y40_1, y40_2, y40_3, y40_4, y40_5⟩ := Cz.d6 BK417; obtain ⟨Ao41, co41, eo41⟩ := Kd.R_slice HO412.out; subst eo41; obtain ⟨Ao42, co42, eo42⟩ := Kd.S_slice HO415.out; subst eo42; obtain ⟨z43_0, z43_1, z43_2, z43_3, z43_4, z43_5, y43_0, y43_1, y43_2, y43_3, y43_4, y43_5⟩ := Cz.d6 BK405) | ((with_reducible refine gate_callee (f := 15) rfl ?_); refine Cz.gL (N := (some 47)) Try.func15 #[.agg #[.int .i64 t394, .int .i64 t395, .int .i64 t396, .int .i64 t397, .slice Ao34 t398.length co34, .slice Ao35 t401.length co35], .agg #[.int .i64 t406, .int .i64 t407, .int .i64 t408, .int .i64 t409, .slice Ao41 t410.length co41, .slice Ao42 t413.length co42]] ?_; (with_reducible refine (waggonerref10_Same.calls t394 t395 t396 t397 _ _ t398 _ _ t401 t406 t407 t408 t409 _ _ t410 _ _ t413 true _ ?side1 ?side2 ?side3 ?side4 ?side5 ?side6 ?side7 ?side8 A18.out).mono ?_); (case side1 => refine (Kd.R_reads' (e := 5) (base := w.heap.size) (ok := fun k_ => (((True ∧ some k_ ≠ (v387 : Value).ownBlock) ∧ some k_ ≠ (v391 : Value).ownBlock) ∧ some k_ ≠ (.slice Ao41 t410.length co41 : Value).ownBlock)) (n := t398.length) (c := co34) ?_).2.2; exact (by (with_reducible repeat (first | apply Kd.R_alloc | apply Kd.R_drewN | apply Kd.R_drew)); exact (Kd.R_mono (Cz.rf (Cz.rf (Cz.rf (Cz.rf (Cz.rf (Cz.rf (Kd.R_types HO400.out BK417.out (by decide)))))))) (fun _ h_ => h_.1)))); (case side2 => exact (Kd.R_reads' HO400.out).2.1); (case side3 => refine (Kd.S_reads' (e := 39) (base := w.heap.size) (ok := fun k_ => ((((some k_ ≠ (.slice Ao34 t398.length co34 : Value).ownBlock ∧ some k_ ≠ (v387 : Value).ownBlock) ∧ some k_ ≠ (v391 : Value).ownBlock) ∧ some k_ ≠ (.slice Ao41 t410.length co41 : Value).ownBlock) ∧ some k_ ≠ (.slice Ao42 t413.length co42 : Value).ownBlock)) (n := t401.length) (c := co35) ?_).2.2; exact (by (with_reducible repeat (first | apply Kd.S_alloc | apply Kd.S_drewN | apply Kd.S_drew)); exact (Kd.S_mono (Cz.sf (Cz.sf (Cz.sf (Cz.sf (Cz.sf (Cz.sf (Kd.S_types HO403.out BK417.out (by decide)))))))) (fun _ h_ => h_.1)))); (case side4 => exact (Kd.S_reads' HO403.out).2.1); (case side5 => refine (Kd.R_reads' (e := 5) (base := w.heap.size) (ok := fun k_ => (((True ∧ some k_ ≠ (v387 : Value).ownBlock) ∧ some k_ ≠ (v391 : Value).ownBlock) ∧ some k_ ≠ (.slice Ao34 t398.length co34 : Value).ownBlock)) (n := t410.length) (c := co41) ?_).2.2; exact (by (with_reducible repeat (first | apply Kd.R_alloc | apply Kd.R_drewN | apply Kd.R_drew)); exact (Kd.R_mono (Cz.rf (Cz.rf (Cz.rf (Cz.rf (Cz.rf (Cz.rf (Kd.R_types HO412.out BK417.out (by decide)))))))) (fun _ h_ => h_.1)))); (case side6 => exact (Kd.R_reads' HO412.out).2.1); (case side7 => refine (Kd.S_reads' (e := 39) (base := w.heap.size) (ok := fun k_ => ((((some k_ ≠ (.slice Ao41 t410.length co41 : Value).ownBlock ∧ some k_ ≠ (v387 : Value).ownBlock) ∧ some k_ ≠ (v391 : Value).ownBlock) ∧ some k_ ≠ (.slice Ao34 t398.length co34 : Value).ownBlock) ∧ some k_ ≠ (.slice Ao35 t401.length co35 : Value).ownBlock)) (n := t413.length) (c := co42) ?_).2.2; exact (by (with_reducible repeat (first | apply Kd.S_alloc | apply Kd.S_drewN | apply Kd.S_drew)); exact (Kd.S_mono (Cz.sf (Cz.sf (Cz.sf (Cz.sf (Cz.sf (Cz.sf (Kd.S_types HO415.out BK417.out (by decide)))))))) (fun _ h_ => h_.1)))); (case side8 => exact (Kd.S_reads' HO415.out).2.1); rintro e w44 ⟨rfl, hb⟩; refine ⟨_, rfl, ?_⟩; replace HO388 := Aside0.mk (Kd.R_below (by (with_reducible repeat (first | apply Kd.R_alloc | apply Kd.R_drewN | apply Kd.R_drew)); exact (Kd.R_mono (Cz.rf (Cz.rf (Cz.rf (Cz.rf (Cz.rf (Cz.rf (Kd.R_types HO388.out BK417.out (by decide)))))))) (fun _ h_ => h_.1))) hb); replace HO392 := Aside0.mk (Kd.R_below (by (with_reducible repeat (first | apply Kd.R_alloc | apply Kd.R_drewN | apply Kd.R_drew)); exact (Kd.R_mono (Cz.rf (Cz.rf (Cz.rf (Cz.rf (Cz.rf (Cz.rf (Kd.R_types HO392.out BK417.out (by decide)))))))) (fun _ h_ => h_.1))) hb); replace HO400 := Aside0.mk (Kd.R_below (by (with_reducible repeat (first | apply Kd.R_alloc | apply Kd.R_drewN | apply Kd.R_drew)); exact (Kd.R_mono (Cz.rf (Cz.rf (Cz.rf (Cz.rf (Cz.rf (Cz.rf (Kd.R_types HO400.out BK417.out (by decide)))))))) (fun _ h_ => h_.1))) hb); replace HO403 := Aside0.mk (Kd.S_below (by (with_reducible repeat (first | apply Kd.S_alloc | apply Kd.S_drewN | apply Kd.S_drew)); exact (Kd.S_mono (Cz.sf (Cz.sf (Cz.sf (Cz.sf (Cz.sf (Cz.sf (Kd.S_types HO403.out BK417.out (by decide)))))))) (fun _ h_ => h_.1))) hb); replace HO412 := Aside0.mk (Kd.R_below (by (with_reducible repeat (first | apply Kd.R_alloc | apply Kd.R_drewN | apply Kd.R_drew)); exact (Kd.R_mono (Cz.rf (Cz.rf (Cz.rf (Cz.rf (Cz.rf (Cz.rf (Kd.R_types HO412.out BK417.out (by decide)))))))) (fun _ h_ => h_.1))) hb); replace HO415 := Aside0.mk (Kd.S_below (by (with_reducible repeat (first | apply Kd.S_alloc | apply Kd.S_drewN | apply Kd.S_drew)); exact (Kd.S_mono (Cz.sf (Cz.sf (Cz.sf (Cz.sf (Cz.sf (Cz.sf (Kd.S_types HO415.out BK417.out (by decide)))))))) (fun _ h_ => h_.1))) hb); replace BK383 := Aside0.mk (blk_below (g := gb383) (o := .cells #[.int .i64 a0_0, .int .i64 a0_1, .int .i64 a0_2, .int .i64 a0_3, .slice A0_4 l0_4.length c0_4, .slice A0_5 l0_5.length c0_5] 26 (0, 0)) (by (with_reducible repeat (first | refine blk_drewN ?_ _ | refine blk_drew ?_ | refine blk_alloc ?_ _)); refine blk_far ?_ NB383_417.out _; refine blk_far ?_ NB383_417.out _; refine blk_far ?_ NB383_417.out _; refine blk_far ?_ NB383_417.out _; refine blk_far ?_ NB383_417.out _; refine blk_far ?_ NB383_417.out _; (with_reducible repeat (first | refine blk_drewN ?_ _ | refine blk_drew ?_ | refine blk_alloc ?_ _)); exact BK383.out) hb); replace BK405 := Aside0.mk (blk_below (g := gb405) (o := .cells #[.int .i64 t394, .int .i64 t395, .int .i64 t396, .int .i64 t397, .slice Ao34 t398.length co34, .slice Ao35 t401.length co35] 26 (0, 0)) (by (with_reducible repeat (first | refine blk_drewN ?_ _ | refine blk_drew ?_ | refine blk_alloc ?_ _)); refine blk_far ?_ NB405_417.out _; refine blk_far ?_ NB405_417.out _; refine blk_far ?_ NB405_417.out _; refine blk_far ?_ NB405_417.out _; refine blk_far ?_ NB405_417.out _; refine blk_far ?_ NB405_417.out _; (with_reducible repeat (first | refine blk_drewN ?_ _ | refine blk_drew ?_ | refine blk_alloc ?_ _)); exact BK405.out) hb); replace BK417 := Aside0.mk (blk_below (g := gb417) (o := .cells #[.int .i64 t406, .int .i64 t407, .int .i64 t408, .int .i64 t409, .slice Ao41 t410.length co41, .slice Ao42 t413.length co42] 26 (0, 0)) (by (with_reducible repeat (first | refine blk_drewN ?_ _ | refine blk_drew ?_ | refine blk_alloc ?_ _)); apply Cz.a6; (with_reducible repeat (first | refine blk_drewN ?_ _ | refine blk_drew ?_ | refine blk_alloc ?_ _)); exact BK417.out) hb); replace HB := Cz.bs (w := w) hb; (try clear hb); (try clear hk)))
         replace HO388 := Aside0.mk (Kd.R_drew HO388.out)
         replace HO392 := Aside0.mk (Kd.R_drew HO392.out)
         replace HO400 := Aside0.mk (Kd.R_drew HO400.out)
         replace HO403 := Aside0.mk (Kd.S_drew HO403.out)
         replace HO412 := Aside0.mk (Kd.R_drew HO412.out)
         replace HO415 := Aside0.mk (Kd.S_drew HO415.out)
         replace BK383 := Aside0.mk (blk_drew BK383.out)
         replace BK405 := Aside0.mk (blk_drew BK405.out)
         replace BK417 := Aside0.mk (blk_drew BK417.out)
         replace HB := Aside0.mk (below_drew1 HB.out)
         refine start_ (n := 29) (S := fun w' => w'.cell? ⟨gb383, 0, none⟩ = some (.int .i64 a0_0) ∧ w'.cell? ⟨gb383, 1, none⟩ = some (.int .i64 a0_1) ∧ w'.cell? ⟨gb383, 2, none⟩ = some (.int .i64 a0_2) ∧ w'.cell? ⟨gb383, 3, none⟩ = some (.int .i64 a0_3) ∧ w'.cell? ⟨gb383, 4, none⟩ = some (.slice A0_4 l0_4.length c0_4) ∧ w'.cell? ⟨gb383, 5, none⟩ = some (.slice A0_5 l0_5.length c0_5) ∧ (convert 23 9 (v387)).run Try.prog w' = .ok (.string (strOfNums t386)) w' ∧ (convert 23 9 (v391)).run Try.prog w' = .ok (.string (strOfNums t390)) w') (ds := []) #[false, false, false, false, false, false, false, false, false, false, false, false, false, false, false, false, false, false, false, false, false, false, false, false, false, false, false, false, false] (by kernel_rfl) rfl rfl ⟨(blk_cell BK383.out 0).trans rfl, (blk_cell BK383.out 1).trans rfl, (blk_cell BK383.out 2).trans rfl, (blk_cell BK383.out 3).trans rfl, (blk_cell BK383.out 4).trans rfl, (blk_cell BK383.out 5).trans rfl, (own_string (P := Try.prog) Try.underlying23 Try.underlying5 Try.underlying9 (Kd.own_of_R HO388.out)), (own_string (P := Try.prog) Try.underlying23 Try.underlying5 Try.underlying9 (Kd.own_of_R HO392.out))⟩ (fun hHeld => ?_); refine with_tabW waggonerlaw10_ChangeTells.tab9 waggonerlaw10_ChangeTells.bits9 (fun HT_ HW_ => ?_)
         generalize w44.drew = w45 at HO388 HO392 HO400 HO403 HO412 HO415 BK383 BK405 BK417 HB hHeld ⊢
         refine Cz.qP 0 48 HT_ ?_
         refine Cz.qP 1 49 HT_ ?_
         refine Cz.qT 2 50 HT_ HW_ hHeld ?_
         refine Cz.qT 4 52 HT_ HW_ hHeld ?_
         refine Cz.qO (N := some 51) 3 HT_ (fun K hK => ?_)
         refine Cz.gO Try.func16 #[.agg #[.int .i64 a0_0, .int .i64 a0_1, .int .i64 a0_2, .int .i64 a0_3, .slice A0_4 l0_4.length c0_4, .slice A0_5 l0_5.length c0_5]] ?_
         with_reducible refine (change_Check.calls a0_0 a0_1 a0_2 a0_3 _ _ l0_4 _ _ l0_5 t419 _ ?side1 ?side2 ?side3 ?side4 A20.out).mono ?_
         (case side1 => exact Cz.cb HR0_4)
         (case side2 => exact HC0_4.out)
         (case side3 => exact Cz.cb HR0_5)
         (case side4 => exact HC0_5.out)
         rintro e w46 ⟨rfl, hb⟩
         refine ⟨_, rfl, ?_⟩
         replace HO388 := Cz.rb HO388 hb
         replace HO392 := Cz.rb HO392 hb
         replace HO400 := Cz.rb HO400 hb
         replace HO403 := Cz.sb HO403 hb
         replace HO412 := Cz.rb HO412 hb
         replace HO415 := Cz.sb HO415 hb
         replace BK383 := Cz.bk BK383 hb
         replace BK405 := Cz.bk BK405 hb
         replace BK417 := Cz.bk BK417 hb
         replace HB := Cz.bs (w := w) hb
         (try clear hb)
         (try clear hb2)
         (try clear hk)
         (try clear hi)
         refine hK.out _ _ ⟨(blk_cell BK383.out 0).trans rfl, (blk_cell BK383.out 1).trans rfl, (blk_cell BK383.out 2).trans rfl, (blk_cell BK383.out 3).trans rfl, (blk_cell BK383.out 4).trans rfl, (blk_cell BK383.out 5).trans rfl, (own_string (P := Try.prog) Try.underlying23 Try.underlying5 Try.underlying9 (Kd.own_of_R HO388.out)), (own_string (P := Try.prog) Try.underlying23 Try.underlying5 Try.underlying9 (Kd.own_of_R HO392.out))⟩ (fun hHeld => ?_)
         clear hK K
         refine norm_ (a' := ?_) ?_ ?_
         rotate_left
         ·show Act.put _ (some 51) _ = _
          simp only [Act.put, Kx.sb, Kx.sz, Kx.ss, i64_w, i32_w]
          rfl
         refine Cz.qO (N := some 53) 5 HT_ (fun K hK => ?_)
         refine Cz.gO Try.func17 #[.agg #[.int .i64 a0_0, .int .i64 a0_1, .int .i64 a0_2, .int .i64 a0_3, .slice A0_4 l0_4.length c0_4, .slice A0_5 l0_5.length c0_5]] ?_
         with_reducible refine (waggonerref10_Check.calls a0_0 a0_1 a0_2 a0_3 _ _ l0_4 _ _ l0_5 t420 _ ?side1 ?side2 ?side3 ?side4 A21.out).mono ?_
         (case side1 => exact Cz.cb HR0_4)
         (case side2 => exact HC0_4.out)
         (case side3 => exact Cz.cb HR0_5)
         (case side4 => exact HC0_5.out)
         rintro e w47 ⟨rfl, hb⟩
         refine ⟨_, rfl, ?_⟩
         replace HO388 := Cz.rb HO388 hb
         replace HO392 := Cz.rb HO392 hb
         replace HO400 := Cz.rb HO400 hb
         replace HO403 := Cz.sb HO403 hb
         replace HO412 := Cz.rb HO412 hb
         replace HO415 := Cz.sb HO415 hb
         replace BK383 := Cz.bk BK383 hb
         replace BK405 := Cz.bk BK405 hb
         replace BK417 := Cz.bk BK417 hb
         replace HB := Cz.bs (w := w) hb
         (try clear hb)
         (try clear hb2)
         (try clear hk)
         (try clear hi)
         refine hK.out _ _ ⟨(blk_cell BK383.out 0).trans rfl, (blk_cell BK383.out 1).trans rfl, (blk_cell BK383.out 2).trans rfl, (blk_cell BK383.out 3).trans rfl, (blk_cell BK383.out 4).trans rfl, (blk_cell BK383.out 5).trans rfl, (own_string (P := Try.prog) Try.underlying23 Try.underlying5 Try.underlying9 (Kd.own_of_R HO388.out)), (own_string (P := Try.prog) Try.underlying23 Try.underlying5 Try.underlying9 (Kd.own_of_R HO392.out))⟩ (fun hHeld => ?_)
         clear hK K
         refine norm_ (a' := ?_) ?_ ?_
         rotate_left
         ·show Act.put _ (some 53) _ = _
          simp only [Act.put, Kx.sb, Kx.sz, Kx.ss, i64_w, i32_w]
          rfl
         refine Cz.qP 6 54 HT_ ?_
         refine Cz.qP 7 55 HT_ ?_
         refine Cz.qP 8 56 HT_ ?_
         refine Cz.qP 9 57 HT_ ?_
         refine Cz.qP 11 59 HT_ ?_
         refine Cz.qT 10 58 HT_ HW_ hHeld ?_
         refine Cz.qT 12 60 HT_ HW_ hHeld ?_
         refine Cz.qP 13 61 HT_ ?_
         refine Cz.qP 14 62 HT_ ?_
         refine Cz.qP 15 63 HT_ ?_
         refine Cz.qP 16 64 HT_ ?_
         refine Cz.qP 17 65 HT_ ?_
         refine Cz.qP 18 66 HT_ ?_
         refine Cz.qP 19 67 HT_ ?_
         refine Cz.qP 20 68 HT_ ?_
         refine Cz.qP 21 69 HT_ ?_
         refine Cz.qP 22 70 HT_ ?_
         refine Cz.qP 23 71 HT_ ?_
         refine Cz.qP 24 72 HT_ ?_
         refine Cz.qP 25 73 HT_ ?_
         refine Cz.qP 26 74 HT_ ?_
         refine Cz.qP 27 75 HT_ ?_
         refine Cz.qP 28 4 HT_ ?_
         refine done_ (done_of HT_.out (by kernel_rfl)) ?_
         try go_wp2
         go_ret
         exact ⟨by first | rfl | (exact congrArg (fun z_ => Ending.returned (Value.bool z_)) HRT.out) | (rw [HRT.out]; done) | (simp [errW_none, errW_some] <;> rfl) | (simp [*, errW_none, errW_some] <;> rfl), Cz.bl (w := w)⟩
        ·replace c25 := Bool.eq_false_iff.mpr c25
         subst c25
         have H1 : (some false) = some true := by rw [if_neg (show ¬ (false = true) by decide)] at H <;> exact H
         exact absurd H1 (by simp)
       ·rw [if_neg c24] at H
        first | exact absurd H (by simp; done) | skip
      ·rw [if_neg c23] at H
       first | exact absurd H (by simp; done) | skip
     ·rw [if_neg c22] at H
      first | exact absurd H (by simp; done) | skip
    ·replace c19 := Bool.eq_false_iff.mpr c19
     subst c19
     have H1 : (some false) = some true := by rw [if_neg (show ¬ (false = true) by decide)] at H <;> exact H
     exact absurd H1 (by simp)
end Go.Proofs.Ytmgohkffphogdaa.PU
