/- Words and walks that this claim names, of those that the kit's print and programs of this workplace have printed. -/
import Derived.Test.YtmgohkffphogdaaZUCz
import Derived.Test.YtmgohkffphogdaaZUPUx15
namespace Go.Proofs.Ytmgohkffphogdaa.PU
open Go.Proofs.Ytmgohkffphogdaa Go.RowKit Go.Proofs.YtmgohkffphogdaaW.PrintWords Go.Proofs.YtmgohkffphogdaaW.PrintLast Go.Proofs.YtmgohkffphogdaaW.PrintMore
attribute [local go_sem] max2_int min2_int max_two min_two max_three min_three max_four min_four
set_option linter.unusedVariables false
set_option linter.unusedSimpArgs false
def waggonerref07_Check_p.j0 : Nat → Bool → Int → Int → Int → Int → List Int → Option (Bool)
 | 0, _, _, _, _, _, _ => none
 | k + 1, x43, x240000, x240001, x240002, x240003, x240004 => if x43 = true then (some false) else (if x240002 = 2 then (some ((x240004.length : Int) == (wrap64 (32 * x240001)))) else (some ((x240004.length : Int) == 0)))
def waggonerref07_Check_p.f (k : Nat) (a0_0 : Int) (a0_1 : Int) (a0_2 : Int) (a0_3 : Int) (l0_4 : List Int) : Option (Bool) := if a0_0 < 0 then (waggonerref07_Check_p.j0 k true a0_0 a0_1 a0_2 a0_3 l0_4) else (if a0_0 > 64 then (waggonerref07_Check_p.j0 k true a0_0 a0_1 a0_2 a0_3 l0_4) else (if a0_1 < 1 then (waggonerref07_Check_p.j0 k true a0_0 a0_1 a0_2 a0_3 l0_4) else (if a0_1 > (wrap64 (64 - a0_0)) then (waggonerref07_Check_p.j0 k true a0_0 a0_1 a0_2 a0_3 l0_4) else (if a0_2 < 0 then (waggonerref07_Check_p.j0 k true a0_0 a0_1 a0_2 a0_3 l0_4) else (if a0_2 > 2 then (waggonerref07_Check_p.j0 k true a0_0 a0_1 a0_2 a0_3 l0_4) else (if a0_3 < 0 then (waggonerref07_Check_p.j0 k true a0_0 a0_1 a0_2 a0_3 l0_4) else (waggonerref07_Check_p.j0 k (decide (a0_3 ≥ 2147483648)) a0_0 a0_1 a0_2 a0_3 l0_4)))))))
set_option maxHeartbeats 8000000 in
set_option maxRecDepth 100000 in
theorem waggonerref07_Check_p.calls (k : Nat) (a0_0 : Int) (a0_1 : Int) (a0_2 : Int) (a0_3 : Int) (A0_4 : Option Addr) (c0_4 : Nat) (l0_4 : List Int) (r : Bool) (w : World) (hr0_4 : Kd.C (Kd.int .u8) w A0_4 l0_4.length l0_4) (hc0_4 : l0_4.length ≤ c0_4) (h : waggonerref07_Check_p.f k a0_0 a0_1 a0_2 a0_3 l0_4 = some r) :
  Calls Try.prog 39 #[.agg #[.int .i64 a0_0, .int .i64 a0_1, .int .i64 a0_2, .int .i64 a0_3, .slice A0_4 l0_4.length c0_4]] w fun e w' => e = .returned (.bool r) ∧ Below w.heap.size w w' := by
 have hu39 := Try.underlying39
 have HR0_4 := Aside0.mk hr0_4
 have HC0_4 := Aside0.mk hc0_4
 clear hr0_4 hc0_4
 have HB := Aside0.mk (Below.refl w.heap.size w)
 have H : (if a0_0 < 0 then (waggonerref07_Check_p.j0 k true a0_0 a0_1 a0_2 a0_3 l0_4) else (if a0_0 > 64 then (waggonerref07_Check_p.j0 k true a0_0 a0_1 a0_2 a0_3 l0_4) else (if a0_1 < 1 then (waggonerref07_Check_p.j0 k true a0_0 a0_1 a0_2 a0_3 l0_4) else (if a0_1 > (wrap64 (64 - a0_0)) then (waggonerref07_Check_p.j0 k true a0_0 a0_1 a0_2 a0_3 l0_4) else (if a0_2 < 0 then (waggonerref07_Check_p.j0 k true a0_0 a0_1 a0_2 a0_3 l0_4) else (if a0_2 > 2 then (waggonerref07_Check_p.j0 k true a0_0 a0_1 a0_2 a0_3 l0_4) else (if a0_3 < 0 then (waggonerref07_Check_p.j0 k true a0_0 a0_1 a0_2 a0_3 l0_4) else (waggonerref07_Check_p.j0 k (decide (a0_3 ≥ 2147483648)) a0_0 a0_1 a0_2 a0_3 l0_4)))))))) = some r := h
 clear h
 have HC2 := Aside0.mk H
 clear H
 go_enter Try.func39, Try.ntmps39
 go_upto_region 1 with (first | ((with_reducible refine gate_dst (N := 1) rfl ?_); refine Cz.bx (N := 1) #[.int .i64 a0_0, .int .i64 a0_1, .int .i64 a0_2, .int .i64 a0_3, .slice A0_4 l0_4.length c0_4] 39 ?_; intro gb239 hg w3 hbox hb; have BK239 := Aside0.mk (hbox); have GW239 := Aside0.mk ((Cz.gs hg : w.heap.size ≤ gb239)); have GE239 := GW239; replace HB := Cz.bs (w := w) hb; clear hb hbox hg))
 (try simp only [Act.put, Kx.sb, Kx.sz, Kx.ss])
 go_cut [43] (fun v43 wc => ∃ (kq : Nat) (x43_1 : Bool), v43 = .bool x43_1 ∧ Aside0 (waggonerref07_Check_p.j0 kq x43_1 a0_0 a0_1 a0_2 a0_3 l0_4 = some r) ∧ Aside0 (kq ≤ k) ∧ Aside0 (wc.heap[gb239]? = some (.cells #[.int .i64 a0_0, .int .i64 a0_1, .int .i64 a0_2, .int .i64 a0_3, (.slice A0_4 l0_4.length c0_4)] 39 (0, 0))) ∧ Aside0 (Below w.heap.size w wc))
 case first =>
  have H := HC2.out
  clear HC2
  by_cases c4 : a0_0 < 0
  ·rw [if_pos c4] at H
   have c4b0 : decide (a0_0 < 0) = true := decide_eq_true c4
   clear c4
   (first | rw [c4b0] | (simp only [i64_w, i32_w]; rw [c4b0]) | skip)
   have H' := Aside0.mk H
   clear H
   obtain ⟨z5_0, z5_1, z5_2, z5_3, z5_4, y5_0, y5_1, y5_2, y5_3, y5_4⟩ := Cz.d5 BK239
   go_wp2
   go_meet
   case rel => exact ⟨_, (true), Cz.si, H', ⟨by first | omega | exact Nat.le_refl _⟩, ⟨by (with_reducible repeat (first | refine blk_drewN ?_ _ | refine blk_drew ?_ | refine blk_alloc ?_ _)); exact BK239.out⟩, ⟨Cz.bl (w := w)⟩⟩
  ·rw [if_neg c4] at H
   have c4b0 : decide (a0_0 < 0) = false := decide_eq_false c4
   clear c4
   (first | rw [c4b0] | (simp only [i64_w, i32_w]; rw [c4b0]) | skip)
   by_cases c6 : a0_0 > 64
   ·rw [if_pos c6] at H
    have c6b0 : decide (64 < a0_0) = true := decide_eq_true c6
    clear c6
    have H' := Aside0.mk H
    clear H
    obtain ⟨z7_0, z7_1, z7_2, z7_3, z7_4, y7_0, y7_1, y7_2, y7_3, y7_4⟩ := Cz.d5 BK239
    go_wp2
    go_meet
    case rel => exact ⟨_, (true), Cz.si, H', ⟨by first | omega | exact Nat.le_refl _⟩, ⟨by (with_reducible repeat (first | refine blk_drewN ?_ _ | refine blk_drew ?_ | refine blk_alloc ?_ _)); exact BK239.out⟩, ⟨Cz.bl (w := w)⟩⟩
   ·rw [if_neg c6] at H
    have c6b0 : decide (64 < a0_0) = false := decide_eq_false c6
    clear c6
    by_cases c8 : a0_1 < 1
    ·rw [if_pos c8] at H
     have c8b0 : decide (a0_1 < 1) = true := decide_eq_true c8
     clear c8
     have H' := Aside0.mk H
     clear H
     obtain ⟨z9_0, z9_1, z9_2, z9_3, z9_4, y9_0, y9_1, y9_2, y9_3, y9_4⟩ := Cz.d5 BK239
     go_wp2
     go_meet
     case rel => exact ⟨_, (true), Cz.si, H', ⟨by first | omega | exact Nat.le_refl _⟩, ⟨by (with_reducible repeat (first | refine blk_drewN ?_ _ | refine blk_drew ?_ | refine blk_alloc ?_ _)); exact BK239.out⟩, ⟨Cz.bl (w := w)⟩⟩
    ·rw [if_neg c8] at H
     have c8b0 : decide (a0_1 < 1) = false := decide_eq_false c8
     clear c8
     by_cases c10 : a0_1 > (wrap64 (64 - a0_0))
     ·rw [if_pos c10] at H
      have c10b0 : decide ((wrap64 (64 - a0_0)) < a0_1) = true := decide_eq_true c10
      clear c10
      have H' := Aside0.mk H
      clear H
      obtain ⟨z11_0, z11_1, z11_2, z11_3, z11_4, y11_0, y11_1, y11_2, y11_3, y11_4⟩ := Cz.d5 BK239
      go_wp2
      go_meet
      case rel => exact ⟨_, (true), Cz.si, H', ⟨by first | omega | exact Nat.le_refl _⟩, ⟨by (with_reducible repeat (first | refine blk_drewN ?_ _ | refine blk_drew ?_ | refine blk_alloc ?_ _)); exact BK239.out⟩, ⟨Cz.bl (w := w)⟩⟩
     ·rw [if_neg c10] at H
      have c10b0 : decide ((wrap64 (64 - a0_0)) < a0_1) = false := decide_eq_false c10
      clear c10
      by_cases c12 : a0_2 < 0
      ·rw [if_pos c12] at H
       have c12b0 : decide (a0_2 < 0) = true := decide_eq_true c12
       clear c12
       have H' := Aside0.mk H
       clear H
       obtain ⟨z13_0, z13_1, z13_2, z13_3, z13_4, y13_0, y13_1, y13_2, y13_3, y13_4⟩ := Cz.d5 BK239
       go_wp2
       go_meet
       case rel => exact ⟨_, (true), Cz.si, H', ⟨by first | omega | exact Nat.le_refl _⟩, ⟨by (with_reducible repeat (first | refine blk_drewN ?_ _ | refine blk_drew ?_ | refine blk_alloc ?_ _)); exact BK239.out⟩, ⟨Cz.bl (w := w)⟩⟩
      ·rw [if_neg c12] at H
       have c12b0 : decide (a0_2 < 0) = false := decide_eq_false c12
       clear c12
       by_cases c14 : a0_2 > 2
       ·rw [if_pos c14] at H
        have c14b0 : decide (2 < a0_2) = true := decide_eq_true c14
        clear c14
        have H' := Aside0.mk H
        clear H
        obtain ⟨z15_0, z15_1, z15_2, z15_3, z15_4, y15_0, y15_1, y15_2, y15_3, y15_4⟩ := Cz.d5 BK239
        go_wp2
        go_meet
        case rel => exact ⟨_, (true), Cz.si, H', ⟨by first | omega | exact Nat.le_refl _⟩, ⟨by (with_reducible repeat (first | refine blk_drewN ?_ _ | refine blk_drew ?_ | refine blk_alloc ?_ _)); exact BK239.out⟩, ⟨Cz.bl (w := w)⟩⟩
       ·rw [if_neg c14] at H
        have c14b0 : decide (2 < a0_2) = false := decide_eq_false c14
        clear c14
        by_cases c16 : a0_3 < 0
        ·rw [if_pos c16] at H
         have c16b0 : decide (a0_3 < 0) = true := decide_eq_true c16
         clear c16
         have H' := Aside0.mk H
         clear H
         obtain ⟨z17_0, z17_1, z17_2, z17_3, z17_4, y17_0, y17_1, y17_2, y17_3, y17_4⟩ := Cz.d5 BK239
         go_wp2
         go_meet
         case rel => exact ⟨_, (true), Cz.si, H', ⟨by first | omega | exact Nat.le_refl _⟩, ⟨by (with_reducible repeat (first | refine blk_drewN ?_ _ | refine blk_drew ?_ | refine blk_alloc ?_ _)); exact BK239.out⟩, ⟨Cz.bl (w := w)⟩⟩
        ·rw [if_neg c16] at H
         have c16b0 : decide (a0_3 < 0) = false := decide_eq_false c16
         clear c16
         have H' := Aside0.mk H
         clear H
         obtain ⟨z18_0, z18_1, z18_2, z18_3, z18_4, y18_0, y18_1, y18_2, y18_3, y18_4⟩ := Cz.d5 BK239
         go_wp2
         go_meet
         case rel => exact ⟨_, (decide (a0_3 ≥ 2147483648)), Cz.si, H', ⟨by first | omega | exact Nat.le_refl _⟩, ⟨by (with_reducible repeat (first | refine blk_drewN ?_ _ | refine blk_drew ?_ | refine blk_alloc ?_ _)); exact BK239.out⟩, ⟨Cz.bl (w := w)⟩⟩
 case rest =>
  clear HC2
  try clear c1
  try clear p2
  try clear c3
  try clear c4
  try clear c4b0
  try clear c6
  try clear c6b0
  try clear p6
  try clear c8
  try clear c8b0
  try clear c10
  try clear c10b0
  try clear c12
  try clear c12b0
  try clear c14
  try clear c14b0
  try clear c16
  try clear c16b0
  try clear z11_0 z11_1 z11_2 z11_3 z11_4 y11_0 y11_1 y11_2 y11_3 y11_4
  try clear z13_0 z13_1 z13_2 z13_3 z13_4 y13_0 y13_1 y13_2 y13_3 y13_4
  try clear z15_0 z15_1 z15_2 z15_3 z15_4 y15_0 y15_1 y15_2 y15_3 y15_4
  try clear z17_0 z17_1 z17_2 z17_3 z17_4 y17_0 y17_1 y17_2 y17_3 y17_4
  try clear z18_0 z18_1 z18_2 z18_3 z18_4 y18_0 y18_1 y18_2 y18_3 y18_4
  try clear z5_0 z5_1 z5_2 z5_3 z5_4 y5_0 y5_1 y5_2 y5_3 y5_4
  try clear z7_0 z7_1 z7_2 z7_3 z7_4 y7_0 y7_1 y7_2 y7_3 y7_4
  try clear z9_0 z9_1 z9_2 z9_3 z9_4 y9_0 y9_1 y9_2 y9_3 y9_4
  obtain ⟨kq, x43_1, rfl, HA, HJ1, BK239, HB⟩ := hcut
  cases kq with
  | zero => exact absurd HA.out (by simp [waggonerref07_Check_p.j0])
  | succ kj1 =>
   have H := HA.out
   clear HA
   simp only [waggonerref07_Check_p.j0] at H
   by_cases c19 : x43_1 = true
   ·subst c19
    rw [if_pos rfl] at H
    obtain rfl := Option.some.inj H
    go_wp2
    go_ret
    exact ⟨Cz.er, Cz.bl (w := w)⟩
   ·replace c19 := Bool.eq_false_iff.mpr c19
    subst c19
    rw [if_neg (show ¬ (false = true) by decide)] at H
    by_cases c20 : a0_2 = 2
    ·rw [if_pos c20] at H
     have c20b0 : (a0_2 == 2) = true := beq_iff_eq.mpr c20
     have c20b1 : (a0_2 != 2) = false := bne_eq_false_iff_eq.mpr c20
     clear c20
     obtain rfl := Option.some.inj H
     obtain ⟨z21_0, z21_1, z21_2, z21_3, z21_4, y21_0, y21_1, y21_2, y21_3, y21_4⟩ := Cz.d5 BK239
     go_wp2
     go_ret
     exact ⟨Cz.er, Cz.bl (w := w)⟩
    ·rw [if_neg c20] at H
     have c20b0 : (a0_2 == 2) = false := beq_eq_false_iff_ne.mpr c20
     have c20b1 : (a0_2 != 2) = true := bne_iff_ne.mpr c20
     obtain rfl := Option.some.inj H
     obtain ⟨z22_0, z22_1, z22_2, z22_3, z22_4, y22_0, y22_1, y22_2, y22_3, y22_4⟩ := Cz.d5 BK239
     go_wp2
     go_ret
     exact ⟨Cz.er, Cz.bl (w := w)⟩
def waggonerref07_Check.f (a0_0 a0_1 a0_2 a0_3 : Int) (l0_4 : List Int) : Option Bool := some (Pl.extOk a0_0 a0_1 a0_2 a0_3 l0_4)
theorem waggonerref07_Check.closes {a0_0 a0_1 a0_2 a0_3 : Int} {l0_4 : List Int} {r : Bool} (h : waggonerref07_Check.f a0_0 a0_1 a0_2 a0_3 l0_4 = some r) : waggonerref07_Check_p.f 1 a0_0 a0_1 a0_2 a0_3 l0_4 = some r := by
 rw [← h]
 have out : waggonerref07_Check_p.j0 1 true a0_0 a0_1 a0_2 a0_3 l0_4 = some false := by
  simp only [waggonerref07_Check_p.j0]
  rw [if_pos trivial]
 unfold waggonerref07_Check_p.f waggonerref07_Check.f Pl.extOk
 by_cases h0 : a0_0 < 0
 ·rw [if_pos h0, decide_eq_false (by omega)]; exact out
 rw [if_neg h0]
 by_cases h1 : a0_0 > 64
 ·rw [if_pos h1, decide_eq_false (by omega)]; exact out
 rw [if_neg h1]
 by_cases h2 : a0_1 < 1
 ·rw [if_pos h2, decide_eq_false (by omega)]; exact out
 rw [if_neg h2, show wrap64 (64 - a0_0) = 64 - a0_0 by unfold wrap64; omega]
 by_cases h3 : a0_1 > 64 - a0_0
 ·rw [if_pos h3, decide_eq_false (by omega)]; exact out
 rw [if_neg h3]
 by_cases h4 : a0_2 < 0
 ·rw [if_pos h4, decide_eq_false (by omega)]; exact out
 rw [if_neg h4]
 by_cases h5 : a0_2 > 2
 ·rw [if_pos h5, decide_eq_false (by omega)]; exact out
 rw [if_neg h5]
 by_cases h6 : a0_3 < 0
 ·rw [if_pos h6, decide_eq_false (by omega)]; exact out
 rw [if_neg h6]
 by_cases h7 : a0_3 ≥ 2147483648
 ·rw [decide_eq_true h7, decide_eq_false (by omega)]; exact out
 rw [decide_eq_false h7]
 simp only [waggonerref07_Check_p.j0]
 rw [if_neg (by decide), show wrap64 (32 * a0_1) = a0_1 * 32 by unfold wrap64; omega]
 by_cases h8 : a0_2 = 2
 ·rw [if_pos h8, if_pos h8, Option.some.injEq, Bool.eq_iff_iff, beq_iff_eq, decide_eq_true_eq]
  constructor
  ·intro h; exact ⟨by omega, by omega, by omega, by omega, by omega, by omega, by omega, by omega, h⟩
  ·intro h; exact h.2.2.2.2.2.2.2.2
 ·rw [if_neg h8, if_neg h8, Option.some.injEq, Bool.eq_iff_iff, beq_iff_eq, decide_eq_true_eq]
  constructor
  ·intro h; exact ⟨by omega, by omega, by omega, by omega, by omega, by omega, by omega, by omega, h⟩
  ·intro h; exact h.2.2.2.2.2.2.2.2
theorem waggonerref07_Check.calls (a0_0 : Int) (a0_1 : Int) (a0_2 : Int) (a0_3 : Int) (A0_4 : Option Addr) (c0_4 : Nat) (l0_4 : List Int) (r : Bool) (w : World) (hr0_4 : Kd.C (Kd.int .u8) w A0_4 l0_4.length l0_4) (hc0_4 : l0_4.length ≤ c0_4) (h : waggonerref07_Check.f a0_0 a0_1 a0_2 a0_3 l0_4 = some r) :
  Calls Try.prog 39 #[.agg #[.int .i64 a0_0, .int .i64 a0_1, .int .i64 a0_2, .int .i64 a0_3, .slice A0_4 l0_4.length c0_4]] w fun e w' => e = .returned (.bool r) ∧ Below w.heap.size w w' :=
 waggonerref07_Check_p.calls 1 a0_0 a0_1 a0_2 a0_3 A0_4 c0_4 l0_4 r w hr0_4 hc0_4 (waggonerref07_Check.closes h)
def waggonerref10_List_p.l0 : Nat → List (S39) → Int → Int → Option (Bool)
 | 0, _, _, _ => none
 | k + 1, x0, x3, x4 => if x4 < (x0.length : Int) then (if 0 ≤ x4 then ((waggonerref07_Check.f ((rd_T39 x0 x4).f0) ((rd_T39 x0 x4).f1) ((rd_T39 x0 x4).f2) ((rd_T39 x0 x4).f3) ((rd_T39 x0 x4).f4)).bind fun t241 => (if t241 = true then (if ((rd_T39 x0 x4).f0) < x3 then (some false) else (waggonerref10_List_p.l0 k x0 (wrap64 (((rd_T39 x0 x4).f0) + ((rd_T39 x0 x4).f1))) (wrap64 (x4 + 1)))) else (some false))) else (none)) else (some true)
def waggonerref10_List_p.f (k : Nat) (l0 : List (S39)) : Option (Bool) := if (l0.length : Int) > 64 then (some false) else (waggonerref10_List_p.l0 k l0 0 0)
set_option maxHeartbeats 8000000 in
set_option maxRecDepth 100000 in
theorem waggonerref10_List_p.calls (k : Nat) (A0 : Option Addr) (c0 : Nat) (l0 : List (S39)) (r : Bool) (w : World) (hr0 : Kd.C k39 w A0 l0.length l0) (hc0 : l0.length ≤ c0) (h : waggonerref10_List_p.f k l0 = some r) :
  Calls Try.prog 33 #[.slice A0 l0.length c0] w fun e w' => e = .returned (.bool r) ∧ Below w.heap.size w w' := by
 have hu39 := Try.underlying39
 have HR0 := Aside0.mk hr0
 have HC0 := Aside0.mk hc0
 clear hr0 hc0
 have HB := Aside0.mk (Below.refl w.heap.size w)
 have H : (if (l0.length : Int) > 64 then (some false) else (waggonerref10_List_p.l0 k l0 0 0)) = some r := h
 clear h
 by_cases c2 : (l0.length : Int) > 64
 ·rw [if_pos c2] at H
  have c2b0 : decide (64 < (l0.length : Int)) = true := decide_eq_true c2
  have c2b1 : decide (64 < l0.length) = true := decide_eq_true (by omega)
  clear c2
  obtain rfl := Option.some.inj H
  go_enter Try.func33, Try.ntmps33
  go_wp2
  repeat (go_quiet (fail); try go_wp2)
  go_ret
  exact ⟨Cz.er, Cz.bl (w := w)⟩
 ·rw [if_neg c2] at H
  have c2b0 : decide (64 < (l0.length : Int)) = false := decide_eq_false c2
  have c2b1 : decide (64 < l0.length) = false := decide_eq_false (by omega)
  clear c2
  have H' := Aside0.mk H
  clear H
  go_enter Try.func33, Try.ntmps33
  go_wp2
  repeat (go_quiet (fail); try go_wp2)
  go_loopg [3, 4] k (fun kq v3 v4 w' => ∃ (x3_1 : Int) (x4_1 : Int), v3 = .int .i64 x3_1 ∧ v4 = .int .i64 x4_1 ∧ Aside0 (waggonerref10_List_p.l0 kq l0 x3_1 x4_1 = some r) ∧ Aside0 (kq ≤ k) ∧ Aside0 (Below w.heap.size w w'))
  case atStart => exact ⟨(0), (0), Cz.si, Cz.si, H', ⟨Nat.le_refl _⟩, ⟨Cz.bl (w := w)⟩⟩
  case round =>
   clear H'
   try clear c2
   try clear c2b0
   try clear c2b1
   try clear p2
   obtain ⟨x3_1, x4_1, rfl, rfl, HA, HK1, HB⟩ := hrel
   cases gk with
   | zero => exact absurd HA.out (by simp [waggonerref10_List_p.l0])
   | succ k1 =>
    have H := HA.out
    clear HA
    simp only [waggonerref10_List_p.l0] at H
    by_cases c3 : x4_1 < (l0.length : Int)
    ·rw [if_pos c3] at H
     have c3b0 : decide (x4_1 < (l0.length : Int)) = true := decide_eq_true c3
     clear c3
     by_cases c4 : 0 ≤ x4_1
     ·rw [if_pos c4] at H
      have c4b0 : decide (0 ≤ x4_1) = true := decide_eq_true c4
      clear c4
      replace H := Option.bind_eq_some_iff.mp H
      obtain ⟨t241, A50, H⟩ := H
      (try dsimp only at H)
      have A5 := Aside0.mk A50
      clear A50
      by_cases c6 : t241 = true
      ·subst c6
       rw [if_pos rfl] at H
       by_cases c7 : ((rd_T39 l0 x4_1).f0) < x3_1
       ·rw [if_pos c7] at H
        have c7b0 : decide (((rd_T39 l0 x4_1).f0) < x3_1) = true := decide_eq_true c7
        clear c7
        obtain rfl := Option.some.inj H
        have p240 : 0 ≤ (x4_1 : Int) := of_decide_eq_true (by first | (with_reducible assumption) | assumption)
        have q240 : x4_1 < (l0.length : Int) := of_decide_eq_true (by first | (with_reducible assumption) | assumption)
        obtain ⟨ad240, A240_4, c240_4, e240, hx240_0, hx240_1, hx240_2, hx240_3, hx240_4, hl240_4, hi240_4⟩ := at_T39 HR0.out x4_1 p240 q240
        cases e240
        replace hx240_0 := (HB.out.cell (World.block_lt_of_cell? w _ hx240_0)).trans hx240_0
        replace hx240_1 := (HB.out.cell (World.block_lt_of_cell? w _ hx240_1)).trans hx240_1
        replace hx240_2 := (HB.out.cell (World.block_lt_of_cell? w _ hx240_2)).trans hx240_2
        replace hx240_3 := (HB.out.cell (World.block_lt_of_cell? w _ hx240_3)).trans hx240_3
        replace hx240_4 := (HB.out.cell (World.block_lt_of_cell? w _ hx240_4)).trans hx240_4
        have HR240_4 := Aside0.mk hi240_4
        have HC240_4 := Aside0.mk hl240_4
        clear hi240_4 hl240_4
        replace p240 := eq_true p240
        replace q240 := eq_true q240
        go_wp2_with (first | (go_at_call 39; (with_reducible refine (waggonerref07_Check.calls ((rd_T39 l0 x4_1).f0) ((rd_T39 l0 x4_1).f1) ((rd_T39 l0 x4_1).f2) ((rd_T39 l0 x4_1).f3) _ _ ((rd_T39 l0 x4_1).f4) true _ ?side1 ?side2 A5.out).mono ?_); (case side1 => exact Cz.cb HR240_4); (case side2 => exact HC240_4.out); rintro e w8 ⟨rfl, hb⟩; replace HB := Cz.bs (w := w) hb; (try clear hb); have p242 : 0 ≤ (x4_1 : Int) := of_decide_eq_true (by first | (with_reducible assumption) | assumption); have q242 : x4_1 < (l0.length : Int) := of_decide_eq_true (by first | (with_reducible assumption) | assumption); obtain ⟨ad242, A242_4, c242_4, e242, hx242_0, hx242_1, hx242_2, hx242_3, hx242_4, hl242_4, hi242_4⟩ := at_T39 HR0.out x4_1 p242 q242; obtain rfl : ad240 = ad242 := (by injection e242); replace hx242_0 := (HB.out.cell (World.block_lt_of_cell? w _ hx242_0)).trans hx242_0; replace hx242_1 := (HB.out.cell (World.block_lt_of_cell? w _ hx242_1)).trans hx242_1; replace hx242_2 := (HB.out.cell (World.block_lt_of_cell? w _ hx242_2)).trans hx242_2; replace hx242_3 := (HB.out.cell (World.block_lt_of_cell? w _ hx242_3)).trans hx242_3; replace hx242_4 := (HB.out.cell (World.block_lt_of_cell? w _ hx242_4)).trans hx242_4; have HR242_4 := Aside0.mk hi242_4; have HC242_4 := Aside0.mk hl242_4; clear hi242_4 hl242_4; replace p242 := eq_true p242; replace q242 := eq_true q242))
        repeat (go_quiet (first | (go_at_call 39; (with_reducible refine (waggonerref07_Check.calls ((rd_T39 l0 x4_1).f0) ((rd_T39 l0 x4_1).f1) ((rd_T39 l0 x4_1).f2) ((rd_T39 l0 x4_1).f3) _ _ ((rd_T39 l0 x4_1).f4) true _ ?side1 ?side2 A5.out).mono ?_); (case side1 => exact Cz.cb HR240_4); (case side2 => exact HC240_4.out); rintro e w8 ⟨rfl, hb⟩; replace HB := Cz.bs (w := w) hb; (try clear hb); have p242 : 0 ≤ (x4_1 : Int) := of_decide_eq_true (by first | (with_reducible assumption) | assumption); have q242 : x4_1 < (l0.length : Int) := of_decide_eq_true (by first | (with_reducible assumption) | assumption); obtain ⟨ad242, A242_4, c242_4, e242, hx242_0, hx242_1, hx242_2, hx242_3, hx242_4, hl242_4, hi242_4⟩ := at_T39 HR0.out x4_1 p242 q242; obtain rfl : ad240 = ad242 := (by injection e242); replace hx242_0 := (HB.out.cell (World.block_lt_of_cell? w _ hx242_0)).trans hx242_0; replace hx242_1 := (HB.out.cell (World.block_lt_of_cell? w _ hx242_1)).trans hx242_1; replace hx242_2 := (HB.out.cell (World.block_lt_of_cell? w _ hx242_2)).trans hx242_2; replace hx242_3 := (HB.out.cell (World.block_lt_of_cell? w _ hx242_3)).trans hx242_3; replace hx242_4 := (HB.out.cell (World.block_lt_of_cell? w _ hx242_4)).trans hx242_4; have HR242_4 := Aside0.mk hi242_4; have HC242_4 := Aside0.mk hl242_4; clear hi242_4 hl242_4; replace p242 := eq_true p242; replace q242 := eq_true q242)); try go_wp2_with (first | (go_at_call 39; (with_reducible refine (waggonerref07_Check.calls ((rd_T39 l0 x4_1).f0) ((rd_T39 l0 x4_1).f1) ((rd_T39 l0 x4_1).f2) ((rd_T39 l0 x4_1).f3) _ _ ((rd_T39 l0 x4_1).f4) true _ ?side1 ?side2 A5.out).mono ?_); (case side1 => exact Cz.cb HR240_4); (case side2 => exact HC240_4.out); rintro e w8 ⟨rfl, hb⟩; replace HB := Cz.bs (w := w) hb; (try clear hb); have p242 : 0 ≤ (x4_1 : Int) := of_decide_eq_true (by first | (with_reducible assumption) | assumption); have q242 : x4_1 < (l0.length : Int) := of_decide_eq_true (by first | (with_reducible assumption) | assumption); obtain ⟨ad242, A242_4, c242_4, e242, hx242_0, hx242_1, hx242_2, hx242_3, hx242_4, hl242_4, hi242_4⟩ := at_T39 HR0.out x4_1 p242 q242; obtain rfl : ad240 = ad242 := (by injection e242); replace hx242_0 := (HB.out.cell (World.block_lt_of_cell? w _ hx242_0)).trans hx242_0; replace hx242_1 := (HB.out.cell (World.block_lt_of_cell? w _ hx242_1)).trans hx242_1; replace hx242_2 := (HB.out.cell (World.block_lt_of_cell? w _ hx242_2)).trans hx242_2; replace hx242_3 := (HB.out.cell (World.block_lt_of_cell? w _ hx242_3)).trans hx242_3; replace hx242_4 := (HB.out.cell (World.block_lt_of_cell? w _ hx242_4)).trans hx242_4; have HR242_4 := Aside0.mk hi242_4; have HC242_4 := Aside0.mk hl242_4; clear hi242_4 hl242_4; replace p242 := eq_true p242; replace q242 := eq_true q242)))
        go_ret
        exact ⟨Cz.er, Cz.bl (w := w)⟩
       ·rw [if_neg c7] at H
        have c7b0 : decide (((rd_T39 l0 x4_1).f0) < x3_1) = false := decide_eq_false c7
        clear c7
        have H' := Aside0.mk H
        clear H
        have p240 : 0 ≤ (x4_1 : Int) := of_decide_eq_true (by first | (with_reducible assumption) | assumption)
        have q240 : x4_1 < (l0.length : Int) := of_decide_eq_true (by first | (with_reducible assumption) | assumption)
        obtain ⟨ad240, A240_4, c240_4, e240, hx240_0, hx240_1, hx240_2, hx240_3, hx240_4, hl240_4, hi240_4⟩ := at_T39 HR0.out x4_1 p240 q240
        cases e240
        replace hx240_0 := (HB.out.cell (World.block_lt_of_cell? w _ hx240_0)).trans hx240_0
        replace hx240_1 := (HB.out.cell (World.block_lt_of_cell? w _ hx240_1)).trans hx240_1
        replace hx240_2 := (HB.out.cell (World.block_lt_of_cell? w _ hx240_2)).trans hx240_2
        replace hx240_3 := (HB.out.cell (World.block_lt_of_cell? w _ hx240_3)).trans hx240_3
        replace hx240_4 := (HB.out.cell (World.block_lt_of_cell? w _ hx240_4)).trans hx240_4
        have HR240_4 := Aside0.mk hi240_4
        have HC240_4 := Aside0.mk hl240_4
        clear hi240_4 hl240_4
        replace p240 := eq_true p240
        replace q240 := eq_true q240
        go_wp2_with (first | (go_at_call 39; (with_reducible refine (waggonerref07_Check.calls ((rd_T39 l0 x4_1).f0) ((rd_T39 l0 x4_1).f1) ((rd_T39 l0 x4_1).f2) ((rd_T39 l0 x4_1).f3) _ _ ((rd_T39 l0 x4_1).f4) true _ ?side1 ?side2 A5.out).mono ?_); (case side1 => exact Cz.cb HR240_4); (case side2 => exact HC240_4.out); rintro e w9 ⟨rfl, hb⟩; replace HB := Cz.bs (w := w) hb; (try clear hb); have p242 : 0 ≤ (x4_1 : Int) := of_decide_eq_true (by first | (with_reducible assumption) | assumption); have q242 : x4_1 < (l0.length : Int) := of_decide_eq_true (by first | (with_reducible assumption) | assumption); obtain ⟨ad242, A242_4, c242_4, e242, hx242_0, hx242_1, hx242_2, hx242_3, hx242_4, hl242_4, hi242_4⟩ := at_T39 HR0.out x4_1 p242 q242; obtain rfl : ad240 = ad242 := (by injection e242); replace hx242_0 := (HB.out.cell (World.block_lt_of_cell? w _ hx242_0)).trans hx242_0; replace hx242_1 := (HB.out.cell (World.block_lt_of_cell? w _ hx242_1)).trans hx242_1; replace hx242_2 := (HB.out.cell (World.block_lt_of_cell? w _ hx242_2)).trans hx242_2; replace hx242_3 := (HB.out.cell (World.block_lt_of_cell? w _ hx242_3)).trans hx242_3; replace hx242_4 := (HB.out.cell (World.block_lt_of_cell? w _ hx242_4)).trans hx242_4; have HR242_4 := Aside0.mk hi242_4; have HC242_4 := Aside0.mk hl242_4; clear hi242_4 hl242_4; replace p242 := eq_true p242; replace q242 := eq_true q242; have p243 : 0 ≤ (x4_1 : Int) := of_decide_eq_true (by first | (with_reducible assumption) | assumption); have q243 : x4_1 < (l0.length : Int) := of_decide_eq_true (by first | (with_reducible assumption) | assumption); obtain ⟨ad243, A243_4, c243_4, e243, hx243_0, hx243_1, hx243_2, hx243_3, hx243_4, hl243_4, hi243_4⟩ := at_T39 HR0.out x4_1 p243 q243; obtain rfl : ad240 = ad243 := (by injection e243); replace hx243_0 := (HB.out.cell (World.block_lt_of_cell? w _ hx243_0)).trans hx243_0; replace hx243_1 := (HB.out.cell (World.block_lt_of_cell? w _ hx243_1)).trans hx243_1; replace hx243_2 := (HB.out.cell (World.block_lt_of_cell? w _ hx243_2)).trans hx243_2; replace hx243_3 := (HB.out.cell (World.block_lt_of_cell? w _ hx243_3)).trans hx243_3; replace hx243_4 := (HB.out.cell (World.block_lt_of_cell? w _ hx243_4)).trans hx243_4; have HR243_4 := Aside0.mk hi243_4; have HC243_4 := Aside0.mk hl243_4; clear hi243_4 hl243_4; replace p243 := eq_true p243; replace q243 := eq_true q243; have ea_ := Option.some.inj (hx242_4.symm.trans hx243_4); injection ea_ with ea_ en_ ec_; subst ea_; subst ec_; clear en_; have p244 : 0 ≤ (x4_1 : Int) := of_decide_eq_true (by first | (with_reducible assumption) | assumption); have q244 : x4_1 < (l0.length : Int) := of_decide_eq_true (by first | (with_reducible assumption) | assumption); obtain ⟨ad244, A244_4, c244_4, e244, hx244_0, hx244_1, hx244_2, hx244_3, hx244_4, hl244_4, hi244_4⟩ := at_T39 HR0.out x4_1 p244 q244; obtain rfl : ad240 = ad244 := (by injection e244); replace hx244_0 := (HB.out.cell (World.block_lt_of_cell? w _ hx244_0)).trans hx244_0; replace hx244_1 := (HB.out.cell (World.block_lt_of_cell? w _ hx244_1)).trans hx244_1; replace hx244_2 := (HB.out.cell (World.block_lt_of_cell? w _ hx244_2)).trans hx244_2; replace hx244_3 := (HB.out.cell (World.block_lt_of_cell? w _ hx244_3)).trans hx244_3; replace hx244_4 := (HB.out.cell (World.block_lt_of_cell? w _ hx244_4)).trans hx244_4; have HR244_4 := Aside0.mk hi244_4; have HC244_4 := Aside0.mk hl244_4; clear hi244_4 hl244_4; replace p244 := eq_true p244; replace q244 := eq_true q244; have ea_ := Option.some.inj (hx242_4.symm.trans hx244_4); injection ea_ with ea_ en_ ec_; subst ea_; subst ec_; clear en_))
        repeat (go_quiet (first | (go_at_call 39; (with_reducible refine (waggonerref07_Check.calls ((rd_T39 l0 x4_1).f0) ((rd_T39 l0 x4_1).f1) ((rd_T39 l0 x4_1).f2) ((rd_T39 l0 x4_1).f3) _ _ ((rd_T39 l0 x4_1).f4) true _ ?side1 ?side2 A5.out).mono ?_); (case side1 => exact Cz.cb HR240_4); (case side2 => exact HC240_4.out); rintro e w9 ⟨rfl, hb⟩; replace HB := Cz.bs (w := w) hb; (try clear hb); have p242 : 0 ≤ (x4_1 : Int) := of_decide_eq_true (by first | (with_reducible assumption) | assumption); have q242 : x4_1 < (l0.length : Int) := of_decide_eq_true (by first | (with_reducible assumption) | assumption); obtain ⟨ad242, A242_4, c242_4, e242, hx242_0, hx242_1, hx242_2, hx242_3, hx242_4, hl242_4, hi242_4⟩ := at_T39 HR0.out x4_1 p242 q242; obtain rfl : ad240 = ad242 := (by injection e242); replace hx242_0 := (HB.out.cell (World.block_lt_of_cell? w _ hx242_0)).trans hx242_0; replace hx242_1 := (HB.out.cell (World.block_lt_of_cell? w _ hx242_1)).trans hx242_1; replace hx242_2 := (HB.out.cell (World.block_lt_of_cell? w _ hx242_2)).trans hx242_2; replace hx242_3 := (HB.out.cell (World.block_lt_of_cell? w _ hx242_3)).trans hx242_3; replace hx242_4 := (HB.out.cell (World.block_lt_of_cell? w _ hx242_4)).trans hx242_4; have HR242_4 := Aside0.mk hi242_4; have HC242_4 := Aside0.mk hl242_4; clear hi242_4 hl242_4; replace p242 := eq_true p242; replace q242 := eq_true q242; have p243 : 0 ≤ (x4_1 : Int) := of_decide_eq_true (by first | (with_reducible assumption) | assumption); have q243 : x4_1 < (l0.length : Int) := of_decide_eq_true (by first | (with_reducible assumption) | assumption); obtain ⟨ad243, A243_4, c243_4, e243, hx243_0, hx243_1, hx243_2, hx243_3, hx243_4, hl243_4, hi243_4⟩ := at_T39 HR0.out x4_1 p243 q243; obtain rfl : ad240 = ad243 := (by injection e243); replace hx243_0 := (HB.out.cell (World.block_lt_of_cell? w _ hx243_0)).trans hx243_0; replace hx243_1 := (HB.out.cell (World.block_lt_of_cell? w _ hx243_1)).trans hx243_1; replace hx243_2 := (HB.out.cell (World.block_lt_of_cell? w _ hx243_2)).trans hx243_2; replace hx243_3 := (HB.out.cell (World.block_lt_of_cell? w _ hx243_3)).trans hx243_3; replace hx243_4 := (HB.out.cell (World.block_lt_of_cell? w _ hx243_4)).trans hx243_4; have HR243_4 := Aside0.mk hi243_4; have HC243_4 := Aside0.mk hl243_4; clear hi243_4 hl243_4; replace p243 := eq_true p243; replace q243 := eq_true q243; have ea_ := Option.some.inj (hx242_4.symm.trans hx243_4); injection ea_ with ea_ en_ ec_; subst ea_; subst ec_; clear en_; have p244 : 0 ≤ (x4_1 : Int) := of_decide_eq_true (by first | (with_reducible assumption) | assumption); have q244 : x4_1 < (l0.length : Int) := of_decide_eq_true (by first | (with_reducible assumption) | assumption); obtain ⟨ad244, A244_4, c244_4, e244, hx244_0, hx244_1, hx244_2, hx244_3, hx244_4, hl244_4, hi244_4⟩ := at_T39 HR0.out x4_1 p244 q244; obtain rfl : ad240 = ad244 := (by injection e244); replace hx244_0 := (HB.out.cell (World.block_lt_of_cell? w _ hx244_0)).trans hx244_0; replace hx244_1 := (HB.out.cell (World.block_lt_of_cell? w _ hx244_1)).trans hx244_1; replace hx244_2 := (HB.out.cell (World.block_lt_of_cell? w _ hx244_2)).trans hx244_2; replace hx244_3 := (HB.out.cell (World.block_lt_of_cell? w _ hx244_3)).trans hx244_3; replace hx244_4 := (HB.out.cell (World.block_lt_of_cell? w _ hx244_4)).trans hx244_4; have HR244_4 := Aside0.mk hi244_4; have HC244_4 := Aside0.mk hl244_4; clear hi244_4 hl244_4; replace p244 := eq_true p244; replace q244 := eq_true q244; have ea_ := Option.some.inj (hx242_4.symm.trans hx244_4); injection ea_ with ea_ en_ ec_; subst ea_; subst ec_; clear en_)); try go_wp2_with (first | (go_at_call 39; (with_reducible refine (waggonerref07_Check.calls ((rd_T39 l0 x4_1).f0) ((rd_T39 l0 x4_1).f1) ((rd_T39 l0 x4_1).f2) ((rd_T39 l0 x4_1).f3) _ _ ((rd_T39 l0 x4_1).f4) true _ ?side1 ?side2 A5.out).mono ?_); (case side1 => exact Cz.cb HR240_4); (case side2 => exact HC240_4.out); rintro e w9 ⟨rfl, hb⟩; replace HB := Cz.bs (w := w) hb; (try clear hb); have p242 : 0 ≤ (x4_1 : Int) := of_decide_eq_true (by first | (with_reducible assumption) | assumption); have q242 : x4_1 < (l0.length : Int) := of_decide_eq_true (by first | (with_reducible assumption) | assumption); obtain ⟨ad242, A242_4, c242_4, e242, hx242_0, hx242_1, hx242_2, hx242_3, hx242_4, hl242_4, hi242_4⟩ := at_T39 HR0.out x4_1 p242 q242; obtain rfl : ad240 = ad242 := (by injection e242); replace hx242_0 := (HB.out.cell (World.block_lt_of_cell? w _ hx242_0)).trans hx242_0; replace hx242_1 := (HB.out.cell (World.block_lt_of_cell? w _ hx242_1)).trans hx242_1; replace hx242_2 := (HB.out.cell (World.block_lt_of_cell? w _ hx242_2)).trans hx242_2; replace hx242_3 := (HB.out.cell (World.block_lt_of_cell? w _ hx242_3)).trans hx242_3; replace hx242_4 := (HB.out.cell (World.block_lt_of_cell? w _ hx242_4)).trans hx242_4; have HR242_4 := Aside0.mk hi242_4; have HC242_4 := Aside0.mk hl242_4; clear hi242_4 hl242_4; replace p242 := eq_true p242; replace q242 := eq_true q242; have p243 : 0 ≤ (x4_1 : Int) := of_decide_eq_true (by first | (with_reducible assumption) | assumption); have q243 : x4_1 < (l0.length : Int) := of_decide_eq_true (by first | (with_reducible assumption) | assumption); obtain ⟨ad243, A243_4, c243_4, e243, hx243_0, hx243_1, hx243_2, hx243_3, hx243_4, hl243_4, hi243_4⟩ := at_T39 HR0.out x4_1 p243 q243; obtain rfl : ad240 = ad243 := (by injection e243); replace hx243_0 := (HB.out.cell (World.block_lt_of_cell? w _ hx243_0)).trans hx243_0; replace hx243_1 := (HB.out.cell (World.block_lt_of_cell? w _ hx243_1)).trans hx243_1; replace hx243_2 := (HB.out.cell (World.block_lt_of_cell? w _ hx243_2)).trans hx243_2; replace hx243_3 := (HB.out.cell (World.block_lt_of_cell? w _ hx243_3)).trans hx243_3; replace hx243_4 := (HB.out.cell (World.block_lt_of_cell? w _ hx243_4)).trans hx243_4; have HR243_4 := Aside0.mk hi243_4; have HC243_4 := Aside0.mk hl243_4; clear hi243_4 hl243_4; replace p243 := eq_true p243; replace q243 := eq_true q243; have ea_ := Option.some.inj (hx242_4.symm.trans hx243_4); injection ea_ with ea_ en_ ec_; subst ea_; subst ec_; clear en_; have p244 : 0 ≤ (x4_1 : Int) := of_decide_eq_true (by first | (with_reducible assumption) | assumption); have q244 : x4_1 < (l0.length : Int) := of_decide_eq_true (by first | (with_reducible assumption) | assumption); obtain ⟨ad244, A244_4, c244_4, e244, hx244_0, hx244_1, hx244_2, hx244_3, hx244_4, hl244_4, hi244_4⟩ := at_T39 HR0.out x4_1 p244 q244; obtain rfl : ad240 = ad244 := (by injection e244); replace hx244_0 := (HB.out.cell (World.block_lt_of_cell? w _ hx244_0)).trans hx244_0; replace hx244_1 := (HB.out.cell (World.block_lt_of_cell? w _ hx244_1)).trans hx244_1; replace hx244_2 := (HB.out.cell (World.block_lt_of_cell? w _ hx244_2)).trans hx244_2; replace hx244_3 := (HB.out.cell (World.block_lt_of_cell? w _ hx244_3)).trans hx244_3; replace hx244_4 := (HB.out.cell (World.block_lt_of_cell? w _ hx244_4)).trans hx244_4; have HR244_4 := Aside0.mk hi244_4; have HC244_4 := Aside0.mk hl244_4; clear hi244_4 hl244_4; replace p244 := eq_true p244; replace q244 := eq_true q244; have ea_ := Option.some.inj (hx242_4.symm.trans hx244_4); injection ea_ with ea_ en_ ec_; subst ea_; subst ec_; clear en_)))
        go_roundg k1
        case measure => have := HK1.out; omega
        case rel => exact ⟨(wrap64 (((rd_T39 l0 x4_1).f0) + ((rd_T39 l0 x4_1).f1))), (wrap64 (x4_1 + 1)), Cz.si, Cz.si, H', ⟨by have := HK1.out; omega⟩, ⟨Cz.bl (w := w)⟩⟩
      ·replace c6 := Bool.eq_false_iff.mpr c6
       subst c6
       rw [if_neg (show ¬ (false = true) by decide)] at H
       obtain rfl := Option.some.inj H
       have p240 : 0 ≤ (x4_1 : Int) := of_decide_eq_true (by first | (with_reducible assumption) | assumption)
       have q240 : x4_1 < (l0.length : Int) := of_decide_eq_true (by first | (with_reducible assumption) | assumption)
       obtain ⟨ad240, A240_4, c240_4, e240, hx240_0, hx240_1, hx240_2, hx240_3, hx240_4, hl240_4, hi240_4⟩ := at_T39 HR0.out x4_1 p240 q240
       cases e240
       replace hx240_0 := (HB.out.cell (World.block_lt_of_cell? w _ hx240_0)).trans hx240_0
       replace hx240_1 := (HB.out.cell (World.block_lt_of_cell? w _ hx240_1)).trans hx240_1
       replace hx240_2 := (HB.out.cell (World.block_lt_of_cell? w _ hx240_2)).trans hx240_2
       replace hx240_3 := (HB.out.cell (World.block_lt_of_cell? w _ hx240_3)).trans hx240_3
       replace hx240_4 := (HB.out.cell (World.block_lt_of_cell? w _ hx240_4)).trans hx240_4
       have HR240_4 := Aside0.mk hi240_4
       have HC240_4 := Aside0.mk hl240_4
       clear hi240_4 hl240_4
       replace p240 := eq_true p240
       replace q240 := eq_true q240
       go_wp2_with (first | (go_at_call 39; (with_reducible refine (waggonerref07_Check.calls ((rd_T39 l0 x4_1).f0) ((rd_T39 l0 x4_1).f1) ((rd_T39 l0 x4_1).f2) ((rd_T39 l0 x4_1).f3) _ _ ((rd_T39 l0 x4_1).f4) false _ ?side1 ?side2 A5.out).mono ?_); (case side1 => exact Cz.cb HR240_4); (case side2 => exact HC240_4.out); rintro e w10 ⟨rfl, hb⟩; replace HB := Cz.bs (w := w) hb; (try clear hb)))
       repeat (go_quiet (first | (go_at_call 39; (with_reducible refine (waggonerref07_Check.calls ((rd_T39 l0 x4_1).f0) ((rd_T39 l0 x4_1).f1) ((rd_T39 l0 x4_1).f2) ((rd_T39 l0 x4_1).f3) _ _ ((rd_T39 l0 x4_1).f4) false _ ?side1 ?side2 A5.out).mono ?_); (case side1 => exact Cz.cb HR240_4); (case side2 => exact HC240_4.out); rintro e w10 ⟨rfl, hb⟩; replace HB := Cz.bs (w := w) hb; (try clear hb))); try go_wp2_with (first | (go_at_call 39; (with_reducible refine (waggonerref07_Check.calls ((rd_T39 l0 x4_1).f0) ((rd_T39 l0 x4_1).f1) ((rd_T39 l0 x4_1).f2) ((rd_T39 l0 x4_1).f3) _ _ ((rd_T39 l0 x4_1).f4) false _ ?side1 ?side2 A5.out).mono ?_); (case side1 => exact Cz.cb HR240_4); (case side2 => exact HC240_4.out); rintro e w10 ⟨rfl, hb⟩; replace HB := Cz.bs (w := w) hb; (try clear hb))))
       go_ret
       exact ⟨Cz.er, Cz.bl (w := w)⟩
     ·rw [if_neg c4] at H
      exact absurd H (by simp)
    ·rw [if_neg c3] at H
     have c3b0 : decide (x4_1 < (l0.length : Int)) = false := decide_eq_false c3
     clear c3
     obtain rfl := Option.some.inj H
     go_wp2
     repeat (go_quiet (fail); try go_wp2)
     go_ret
     exact ⟨Cz.er, Cz.bl (w := w)⟩
def waggonerref10_List.f (l0 : List S39) : Option Bool := some (Pl.folS (l0.map toE))
theorem waggonerref10_List.loop {l0 : List S39} (h2 : l0.length ≤ 64) : ∀ (d k i : Nat) (t : Int), l0.length - i = d → i ≤ l0.length → d < k → waggonerref10_List_p.l0 k l0 t (i : Int) = some (Pl.folB t ((l0.drop i).map toE))
 | 0, k, i, t, hd, hi, hk => by
  obtain ⟨k, rfl⟩ : ∃ m, k = m + 1 := ⟨k - 1, by omega⟩
  rw [waggonerref10_List_p.l0, if_neg (by omega), List.drop_of_length_le (by omega), List.map_nil, Pl.folB]
 | d + 1, k, i, t, hd, hi, hk => by
  obtain ⟨k, rfl⟩ : ∃ m, k = m + 1 := ⟨k - 1, by omega⟩
  have hi0 : i < l0.length := by omega
  have q1 : wrap64 ((i : Int) + 1) = ((i + 1 : Nat) : Int) := by unfold wrap64; omega
  rw [waggonerref10_List_p.l0, if_pos (by omega), if_pos (by omega), rd_getE l0 i hi0, waggonerref07_Check.f, Option.bind_some, List.drop_eq_getElem_cons hi0, List.map_cons, Pl.folB]
  by_cases hok : Pl.extOk l0[i].f0 l0[i].f1 l0[i].f2 l0[i].f3 l0[i].f4 = true
  ·have q := Pl.extOk_iff.1 hok
   have q2 : wrap64 (l0[i].f0 + l0[i].f1) = l0[i].f0 + l0[i].f1 := by unfold wrap64; omega
   rw [if_pos hok, show Pl.eOk (toE l0[i]) = true from hok, Bool.true_and]
   by_cases ht : l0[i].f0 < t
   ·rw [if_pos ht, decide_eq_false (show ¬ t ≤ (toE l0[i]).1 by show ¬ t ≤ l0[i].f0; omega)]
    rfl
   ·rw [if_neg ht, decide_eq_true (show t ≤ (toE l0[i]).1 by show t ≤ l0[i].f0; omega), Bool.true_and, q1, q2]
    exact waggonerref10_List.loop h2 d k (i + 1) _ (by omega) (by omega) (by omega)
  ·rw [if_neg hok, show Pl.eOk (toE l0[i]) = false from Bool.eq_false_iff.2 hok, Bool.false_and]
theorem waggonerref10_List.closes {l0 : List S39} {r : Bool} (h : waggonerref10_List.f l0 = some r) : waggonerref10_List_p.f (l0.length + 1) l0 = some r := by
 rw [← h]
 unfold waggonerref10_List_p.f waggonerref10_List.f
 rw [Pl.folS, List.length_map]
 by_cases h6 : l0.length > 64
 ·rw [if_pos (by omega), decide_eq_false (by omega), Bool.false_and]
 ·rw [if_neg (by omega), decide_eq_true (by omega), Bool.true_and]
  exact waggonerref10_List.loop (by omega) l0.length (l0.length + 1) 0 0 (by omega) (by omega) (by omega)
theorem waggonerref10_List.calls (A0 : Option Addr) (c0 : Nat) (l0 : List (S39)) (r : Bool) (w : World) (hr0 : Kd.C k39 w A0 l0.length l0) (hc0 : l0.length ≤ c0) (h : waggonerref10_List.f l0 = some r) :
  Calls Try.prog 33 #[.slice A0 l0.length c0] w fun e w' => e = .returned (.bool r) ∧ Below w.heap.size w w' :=
 waggonerref10_List_p.calls (l0.length + 1) A0 c0 l0 r w hr0 hc0 (waggonerref10_List.closes h)
end Go.Proofs.Ytmgohkffphogdaa.PU
