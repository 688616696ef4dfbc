/- Words and walks that this claim names, of those that the kit's print and programs of this workplace have printed. -/
import Derived.Test.YtmgohkffphogdaaZUCz
import Derived.Test.YtmgohkffphogdaaZUPUx15
import Derived.Test.YtmgohkffphogdaaZUPUx49
namespace Go.Proofs.Ytmgohkffphogdaa.PU
open Go.Proofs.Ytmgohkffphogdaa Go.RowKit Go.Proofs.YtmgohkffphogdaaW.PrintWords Go.Proofs.YtmgohkffphogdaaW.PrintLast Go.Proofs.YtmgohkffphogdaaW.PrintMore
attribute [local go_sem] max2_int min2_int max_two min_two max_three min_three max_four min_four
set_option linter.unusedVariables false
set_option linter.unusedSimpArgs false
mutual
def waggonerref10_Check_p.j0 : Nat → Bool → Int → Int → Int → Int → List Int → List (S39) → Option (Bool)
 | 0, _, _, _, _, _, _, _ => none
 | k + 1, x3, x246000, x246001, x246002, x246003, x246004, x246005 => if x246003 ≥ 1 then (waggonerref10_Check_p.j1 k x3 (decide (x246003 < 2147483648)) x246000 x246001 x246002 x246003 x246004 x246005) else (waggonerref10_Check_p.j1 k x3 false x246000 x246001 x246002 x246003 x246004 x246005)
def waggonerref10_Check_p.j1 : Nat → Bool → Bool → Int → Int → Int → Int → List Int → List (S39) → Option (Bool)
 | 0, _, _, _, _, _, _, _, _ => none
 | k + 1, x3, x4, x246000, x246001, x246002, x246003, x246004, x246005 => (waggonerref10_List.f x246005).bind fun t246 => (if x246000 = 1 then (if x3 = true then (if x246003 = 0 then (if (x246004.length : Int) = (wrap64 (32 * x246002)) then (some ((x246005.length : Int) == 0)) else (some false)) else (some false)) else (some false)) else (if x246000 = 2 then (waggonerref10_Check_p.j2 k x3 x4 (x246004.length : Int) t246 x246000 (x246000 == 2) x246000 x246001 x246002 x246003 x246004 x246005) else (waggonerref10_Check_p.j2 k x3 x4 (x246004.length : Int) t246 x246000 (x246000 == 3) x246000 x246001 x246002 x246003 x246004 x246005)))
def waggonerref10_Check_p.j2 : Nat → Bool → Bool → Int → Bool → Int → Bool → Int → Int → Int → Int → List Int → List (S39) → Option (Bool)
 | 0, _, _, _, _, _, _, _, _, _, _, _, _ => none
 | k + 1, x3, x4, x5, x6, x43, x65, x246000, x246001, x246002, x246003, x246004, x246005 => if x65 = true then (if x3 = true then (if x246003 = 0 then (if x5 = 0 then (some ((x246005.length : Int) == 0)) else (some false)) else (some false)) else (some false)) else (if x43 = 4 then (waggonerref10_Check_p.j3 k x4 x5 x6 x43 (x43 == 4) x246000 x246001 x246002 x246003 x246004 x246005) else (waggonerref10_Check_p.j3 k x4 x5 x6 x43 (x43 == 5) x246000 x246001 x246002 x246003 x246004 x246005))
def waggonerref10_Check_p.j3 : Nat → Bool → Int → Bool → Int → Bool → Int → Int → Int → Int → List Int → List (S39) → Option (Bool)
 | 0, _, _, _, _, _, _, _, _, _, _, _ => none
 | k + 1, x4, x5, x6, x43, x84, x246000, x246001, x246002, x246003, x246004, x246005 => if x84 = true then (if x246001 = 0 then (if x246002 = 0 then (if x4 = true then (if x5 = 0 then (some ((x246005.length : Int) == 0)) else (some false)) else (some false)) else (some false)) else (some false)) else (if x43 = 6 then (if x246001 = 0 then (if x246002 = 0 then (if x246003 = 0 then (if x5 ≥ 1 then (if x5 ≤ 1000 then (some ((x246005.length : Int) == 0)) else (some false)) else (some false)) else (some false)) else (some false)) else (some false)) else (if x43 = 7 then (if x246001 = 0 then (if x246002 = 0 then (if x246003 = 0 then (if x5 = 0 then (some ((x246005.length : Int) == 0)) else (some false)) else (some false)) else (some false)) else (some false)) else (if x43 = 8 then (if x246001 = 0 then (if x246002 = 0 then (if x4 = true then (if x5 = 0 then (some x6) else (some false)) else (some false)) else (some false)) else (some false)) else (some false))))
end
def waggonerref10_Check_p.f (k : Nat) (a0_0 : Int) (a0_1 : Int) (a0_2 : Int) (a0_3 : Int) (l0_4 : List Int) (l0_5 : List (S39)) : Option (Bool) := if a0_1 ≥ 0 then (if a0_1 ≤ 64 then (if a0_2 ≥ 1 then (waggonerref10_Check_p.j0 k (decide (a0_2 ≤ (wrap64 (64 - a0_1)))) a0_0 a0_1 a0_2 a0_3 l0_4 l0_5) else (waggonerref10_Check_p.j0 k false a0_0 a0_1 a0_2 a0_3 l0_4 l0_5)) else (waggonerref10_Check_p.j0 k false a0_0 a0_1 a0_2 a0_3 l0_4 l0_5)) else (waggonerref10_Check_p.j0 k false a0_0 a0_1 a0_2 a0_3 l0_4 l0_5)
set_option maxHeartbeats 8000000 in
set_option maxRecDepth 100000 in
theorem waggonerref10_Check_p.calls (k : Nat) (a0_0 : Int) (a0_1 : Int) (a0_2 : Int) (a0_3 : Int) (A0_4 : Option Addr) (c0_4 : Nat) (l0_4 : List Int) (A0_5 : Option Addr) (c0_5 : Nat) (l0_5 : List (S39)) (r : Bool) (w : World) (hr0_4 : Kd.C (Kd.int .u8) w A0_4 l0_4.length l0_4) (hc0_4 : l0_4.length ≤ c0_4) (hr0_5 : Kd.C k39 w A0_5 l0_5.length l0_5) (hc0_5 : l0_5.length ≤ c0_5) (h : waggonerref10_Check_p.f k a0_0 a0_1 a0_2 a0_3 l0_4 l0_5 = some r) :
  Calls Try.prog 17 #[.agg #[.int .i64 a0_0, .int .i64 a0_1, .int .i64 a0_2, .int .i64 a0_3, .slice A0_4 l0_4.length c0_4, .slice A0_5 l0_5.length c0_5]] w fun e w' => e = .returned (.bool r) ∧ Below w.heap.size w w' := by
 have hu26 := Try.underlying26
 have HR0_4 := Aside0.mk hr0_4
 have HC0_4 := Aside0.mk hc0_4
 clear hr0_4 hc0_4
 have HR0_5 := Aside0.mk hr0_5
 have HC0_5 := Aside0.mk hc0_5
 clear hr0_5 hc0_5
 have HB := Aside0.mk (Below.refl w.heap.size w)
 have H : (if a0_1 ≥ 0 then (if a0_1 ≤ 64 then (if a0_2 ≥ 1 then (waggonerref10_Check_p.j0 k (decide (a0_2 ≤ (wrap64 (64 - a0_1)))) a0_0 a0_1 a0_2 a0_3 l0_4 l0_5) else (waggonerref10_Check_p.j0 k false a0_0 a0_1 a0_2 a0_3 l0_4 l0_5)) else (waggonerref10_Check_p.j0 k false a0_0 a0_1 a0_2 a0_3 l0_4 l0_5)) else (waggonerref10_Check_p.j0 k false a0_0 a0_1 a0_2 a0_3 l0_4 l0_5)) = some r := h
 clear h
 have HC2 := Aside0.mk H
 clear H
 go_enter Try.func17, Try.ntmps17
 go_upto_region 1 with (first | ((with_reducible refine gate_dst (N := 1) rfl ?_); (try (refine gate_guard (by rfl) ?_; dsimp only)); refine Cz.bx (N := 1) #[.int .i64 a0_0, .int .i64 a0_1, .int .i64 a0_2, .int .i64 a0_3, .slice A0_4 l0_4.length c0_4, .slice A0_5 l0_5.length c0_5] 26 ?_; intro gb245 hg w3 hbox hb; have BK245 := Aside0.mk (hbox); have GW245 := Aside0.mk ((Cz.gs hg : w.heap.size ≤ gb245)); have GE245 := GW245; replace HB := Cz.bs (w := w) hb; clear hb hbox hg))
 (try simp only [Act.put, Kx.sb, Kx.sz, Kx.ss])
 go_cut [3] (fun v3 wc => ∃ (kq : Nat) (x3_1 : Bool), v3 = .bool x3_1 ∧ Aside0 (waggonerref10_Check_p.j0 kq x3_1 a0_0 a0_1 a0_2 a0_3 l0_4 l0_5 = some r) ∧ Aside0 (kq ≤ k) ∧ Aside0 (wc.heap[gb245]? = some (.cells #[.int .i64 a0_0, .int .i64 a0_1, .int .i64 a0_2, .int .i64 a0_3, (.slice A0_4 l0_4.length c0_4), (.slice A0_5 l0_5.length c0_5)] 26 (0, 0))) ∧ Aside0 (Below w.heap.size w wc))
 case first =>
  have H := HC2.out
  clear HC2
  by_cases c4 : a0_1 ≥ 0
  ·rw [if_pos c4] at H
   have c4b0 : decide (0 ≤ a0_1) = true := decide_eq_true c4
   clear c4
   (first | rw [c4b0] | (simp only [i64_w, i32_w]; rw [c4b0]) | skip)
   by_cases c5 : a0_1 ≤ 64
   ·rw [if_pos c5] at H
    have c5b0 : decide (a0_1 ≤ 64) = true := decide_eq_true c5
    clear c5
    by_cases c6 : a0_2 ≥ 1
    ·rw [if_pos c6] at H
     have c6b0 : decide (1 ≤ a0_2) = true := decide_eq_true c6
     clear c6
     have H' := Aside0.mk H
     clear H
     obtain ⟨z7_0, z7_1, z7_2, z7_3, z7_4, z7_5, y7_0, y7_1, y7_2, y7_3, y7_4, y7_5⟩ := Cz.d6 BK245
     go_wp2
     go_meet
     case rel => exact ⟨_, (decide (a0_2 ≤ (wrap64 (64 - a0_1)))), Cz.si, H', ⟨by first | omega | exact Nat.le_refl _⟩, ⟨by (with_reducible repeat (first | refine blk_drewN ?_ _ | refine blk_drew ?_ | refine blk_alloc ?_ _)); exact BK245.out⟩, ⟨Cz.bl (w := w)⟩⟩
    ·rw [if_neg c6] at H
     have c6b0 : decide (1 ≤ a0_2) = false := decide_eq_false c6
     clear c6
     have H' := Aside0.mk H
     clear H
     obtain ⟨z8_0, z8_1, z8_2, z8_3, z8_4, z8_5, y8_0, y8_1, y8_2, y8_3, y8_4, y8_5⟩ := Cz.d6 BK245
     go_wp2
     go_meet
     case rel => exact ⟨_, (false), Cz.si, H', ⟨by first | omega | exact Nat.le_refl _⟩, ⟨by (with_reducible repeat (first | refine blk_drewN ?_ _ | refine blk_drew ?_ | refine blk_alloc ?_ _)); exact BK245.out⟩, ⟨Cz.bl (w := w)⟩⟩
   ·rw [if_neg c5] at H
    have c5b0 : decide (a0_1 ≤ 64) = false := decide_eq_false c5
    clear c5
    have H' := Aside0.mk H
    clear H
    obtain ⟨z9_0, z9_1, z9_2, z9_3, z9_4, z9_5, y9_0, y9_1, y9_2, y9_3, y9_4, y9_5⟩ := Cz.d6 BK245
    go_wp2
    go_meet
    case rel => exact ⟨_, (false), Cz.si, H', ⟨by first | omega | exact Nat.le_refl _⟩, ⟨by (with_reducible repeat (first | refine blk_drewN ?_ _ | refine blk_drew ?_ | refine blk_alloc ?_ _)); exact BK245.out⟩, ⟨Cz.bl (w := w)⟩⟩
  ·rw [if_neg c4] at H
   have c4b0 : decide (0 ≤ a0_1) = false := decide_eq_false c4
   clear c4
   (first | rw [c4b0] | (simp only [i64_w, i32_w]; rw [c4b0]) | skip)
   have H' := Aside0.mk H
   clear H
   obtain ⟨z10_0, z10_1, z10_2, z10_3, z10_4, z10_5, y10_0, y10_1, y10_2, y10_3, y10_4, y10_5⟩ := Cz.d6 BK245
   go_wp2
   go_meet
   case rel => exact ⟨_, (false), Cz.si, H', ⟨by first | omega | exact Nat.le_refl _⟩, ⟨by (with_reducible repeat (first | refine blk_drewN ?_ _ | refine blk_drew ?_ | refine blk_alloc ?_ _)); exact BK245.out⟩, ⟨Cz.bl (w := w)⟩⟩
 case rest =>
  clear HC2
  try clear c1
  try clear p2
  try clear c4
  try clear c4b0
  try clear c5
  try clear c5b0
  try clear c6
  try clear c6b0
  try clear p6
  try clear z10_0 z10_1 z10_2 z10_3 z10_4 z10_5 y10_0 y10_1 y10_2 y10_3 y10_4 y10_5
  try clear z7_0 z7_1 z7_2 z7_3 z7_4 z7_5 y7_0 y7_1 y7_2 y7_3 y7_4 y7_5
  try clear z8_0 z8_1 z8_2 z8_3 z8_4 z8_5 y8_0 y8_1 y8_2 y8_3 y8_4 y8_5
  try clear z9_0 z9_1 z9_2 z9_3 z9_4 z9_5 y9_0 y9_1 y9_2 y9_3 y9_4 y9_5
  obtain ⟨kq, x3_1, rfl, HA, HJ1, BK245, HB⟩ := hcut
  cases kq with
  | zero => exact absurd HA.out (by simp [waggonerref10_Check_p.j0])
  | succ kj1 =>
   have H := HA.out
   clear HA
   simp only [waggonerref10_Check_p.j0] at H
   have HC11 := Aside0.mk H
   clear H
   go_upto_region 2 with (fail)
   go_cut [4] (fun v4 wc => ∃ (kq : Nat) (x4_10 : Bool), v4 = .bool x4_10 ∧ Aside0 (waggonerref10_Check_p.j1 kq x3_1 x4_10 a0_0 a0_1 a0_2 a0_3 l0_4 l0_5 = some r) ∧ Aside0 (kq ≤ kj1) ∧ Aside0 (wc.heap[gb245]? = some (.cells #[.int .i64 a0_0, .int .i64 a0_1, .int .i64 a0_2, .int .i64 a0_3, (.slice A0_4 l0_4.length c0_4), (.slice A0_5 l0_5.length c0_5)] 26 (0, 0))) ∧ Aside0 (Below w.heap.size w wc))
   case first =>
    have H := HC11.out
    clear HC11
    by_cases c12 : a0_3 ≥ 1
    ·rw [if_pos c12] at H
     have c12b0 : decide (1 ≤ a0_3) = true := decide_eq_true c12
     clear c12
     (first | rw [c12b0] | (simp only [i64_w, i32_w]; rw [c12b0]) | skip)
     have H' := Aside0.mk H
     clear H
     obtain ⟨z13_0, z13_1, z13_2, z13_3, z13_4, z13_5, y13_0, y13_1, y13_2, y13_3, y13_4, y13_5⟩ := Cz.d6 BK245
     go_wp2
     go_meet
     case rel => exact ⟨_, (decide (a0_3 < 2147483648)), Cz.si, H', ⟨by have := HJ1.out; first | omega | exact Nat.le_refl _⟩, ⟨by (with_reducible repeat (first | refine blk_drewN ?_ _ | refine blk_drew ?_ | refine blk_alloc ?_ _)); exact BK245.out⟩, ⟨Cz.bl (w := w)⟩⟩
    ·rw [if_neg c12] at H
     have c12b0 : decide (1 ≤ a0_3) = false := decide_eq_false c12
     clear c12
     (first | rw [c12b0] | (simp only [i64_w, i32_w]; rw [c12b0]) | skip)
     have H' := Aside0.mk H
     clear H
     obtain ⟨z14_0, z14_1, z14_2, z14_3, z14_4, z14_5, y14_0, y14_1, y14_2, y14_3, y14_4, y14_5⟩ := Cz.d6 BK245
     go_wp2
     go_meet
     case rel => exact ⟨_, (false), Cz.si, H', ⟨by have := HJ1.out; first | omega | exact Nat.le_refl _⟩, ⟨by (with_reducible repeat (first | refine blk_drewN ?_ _ | refine blk_drew ?_ | refine blk_alloc ?_ _)); exact BK245.out⟩, ⟨Cz.bl (w := w)⟩⟩
   case rest =>
    clear HC11
    try clear c1
    try clear p2 p2
    try clear c4
    try clear c4b0
    try clear c5
    try clear c5b0
    try clear c6
    try clear c6b0
    try clear p6 p6
    try clear c12
    try clear c12b0
    try clear z10_0 z10_1 z10_2 z10_3 z10_4 z10_5 y10_0 y10_1 y10_2 y10_3 y10_4 y10_5
    try clear z13_0 z13_1 z13_2 z13_3 z13_4 z13_5 y13_0 y13_1 y13_2 y13_3 y13_4 y13_5
    try clear z14_0 z14_1 z14_2 z14_3 z14_4 z14_5 y14_0 y14_1 y14_2 y14_3 y14_4 y14_5
    try clear z7_0 z7_1 z7_2 z7_3 z7_4 z7_5 y7_0 y7_1 y7_2 y7_3 y7_4 y7_5
    try clear z8_0 z8_1 z8_2 z8_3 z8_4 z8_5 y8_0 y8_1 y8_2 y8_3 y8_4 y8_5
    try clear z9_0 z9_1 z9_2 z9_3 z9_4 z9_5 y9_0 y9_1 y9_2 y9_3 y9_4 y9_5
    obtain ⟨kq, x4_10, rfl, HA, HJ10, BK245, HB⟩ := hcut
    cases kq with
    | zero => exact absurd HA.out (by simp [waggonerref10_Check_p.j1])
    | succ kj10 =>
     have H := HA.out
     clear HA
     simp only [waggonerref10_Check_p.j1] at H
     replace H := Option.bind_eq_some_iff.mp H
     obtain ⟨t246, A150, H⟩ := H
     (try dsimp only at H)
     have A15 := Aside0.mk A150
     clear A150
     by_cases c16 : a0_0 = 1
     ·rw [if_pos c16] at H
      have c16b0 : (a0_0 == 1) = true := beq_iff_eq.mpr c16
      have c16b1 : (a0_0 != 1) = false := bne_eq_false_iff_eq.mpr c16
      clear c16
      by_cases c17 : x3_1 = true
      ·subst c17
       rw [if_pos rfl] at H
       by_cases c18 : a0_3 = 0
       ·rw [if_pos c18] at H
        have c18b0 : (a0_3 == 0) = true := beq_iff_eq.mpr c18
        have c18b1 : (a0_3 != 0) = false := bne_eq_false_iff_eq.mpr c18
        clear c18
        by_cases c19 : (l0_4.length : Int) = (wrap64 (32 * a0_2))
        ·rw [if_pos c19] at H
         have c19b0 : ((l0_4.length : Int) == (wrap64 (32 * a0_2))) = true := beq_iff_eq.mpr c19
         have c19b1 : ((l0_4.length : Int) != (wrap64 (32 * a0_2))) = false := bne_eq_false_iff_eq.mpr c19
         clear c19
         obtain rfl := Option.some.inj H
         obtain ⟨z20_0, z20_1, z20_2, z20_3, z20_4, z20_5, y20_0, y20_1, y20_2, y20_3, y20_4, y20_5⟩ := Cz.d6 BK245
         go_wp2_with (first | ((with_reducible refine gate_callee (f := 33) rfl ?_); refine Cz.gL (N := (some 41)) Try.func33 #[.slice A0_5 l0_5.length c0_5] ?_; (with_reducible refine (waggonerref10_List.calls _ _ l0_5 t246 _ ?side1 ?side2 A15.out).mono ?_); (case side1 => exact Cz.cb HR0_5); (case side2 => exact HC0_5.out); rintro e w21 ⟨rfl, hb⟩; refine ⟨_, rfl, ?_⟩; replace BK245 := Cz.bk BK245 hb; replace HB := Cz.bs (w := w) hb; (try clear hb); obtain ⟨z22_0, z22_1, z22_2, z22_3, z22_4, z22_5, y22_0, y22_1, y22_2, y22_3, y22_4, y22_5⟩ := Cz.d6 BK245))
         go_ret
         exact ⟨Cz.er, Cz.bl (w := w)⟩
        ·rw [if_neg c19] at H
         have c19b0 : ((l0_4.length : Int) == (wrap64 (32 * a0_2))) = false := beq_eq_false_iff_ne.mpr c19
         have c19b1 : ((l0_4.length : Int) != (wrap64 (32 * a0_2))) = true := bne_iff_ne.mpr c19
         obtain rfl := Option.some.inj H
         obtain ⟨z23_0, z23_1, z23_2, z23_3, z23_4, z23_5, y23_0, y23_1, y23_2, y23_3, y23_4, y23_5⟩ := Cz.d6 BK245
         go_wp2_with (first | ((with_reducible refine gate_callee (f := 33) rfl ?_); refine Cz.gL (N := (some 41)) Try.func33 #[.slice A0_5 l0_5.length c0_5] ?_; (with_reducible refine (waggonerref10_List.calls _ _ l0_5 t246 _ ?side1 ?side2 A15.out).mono ?_); (case side1 => exact Cz.cb HR0_5); (case side2 => exact HC0_5.out); rintro e w24 ⟨rfl, hb⟩; refine ⟨_, rfl, ?_⟩; replace BK245 := Cz.bk BK245 hb; replace HB := Cz.bs (w := w) hb; (try clear hb); obtain ⟨z25_0, z25_1, z25_2, z25_3, z25_4, z25_5, y25_0, y25_1, y25_2, y25_3, y25_4, y25_5⟩ := Cz.d6 BK245))
         go_ret
         exact ⟨Cz.er, Cz.bl (w := w)⟩
       ·rw [if_neg c18] at H
        have c18b0 : (a0_3 == 0) = false := beq_eq_false_iff_ne.mpr c18
        have c18b1 : (a0_3 != 0) = true := bne_iff_ne.mpr c18
        obtain rfl := Option.some.inj H
        obtain ⟨z26_0, z26_1, z26_2, z26_3, z26_4, z26_5, y26_0, y26_1, y26_2, y26_3, y26_4, y26_5⟩ := Cz.d6 BK245
        go_wp2_with (first | ((with_reducible refine gate_callee (f := 33) rfl ?_); refine Cz.gL (N := (some 41)) Try.func33 #[.slice A0_5 l0_5.length c0_5] ?_; (with_reducible refine (waggonerref10_List.calls _ _ l0_5 t246 _ ?side1 ?side2 A15.out).mono ?_); (case side1 => exact Cz.cb HR0_5); (case side2 => exact HC0_5.out); rintro e w27 ⟨rfl, hb⟩; refine ⟨_, rfl, ?_⟩; replace BK245 := Cz.bk BK245 hb; replace HB := Cz.bs (w := w) hb; (try clear hb); obtain ⟨z28_0, z28_1, z28_2, z28_3, z28_4, z28_5, y28_0, y28_1, y28_2, y28_3, y28_4, y28_5⟩ := Cz.d6 BK245))
        go_ret
        exact ⟨Cz.er, Cz.bl (w := w)⟩
      ·replace c17 := Bool.eq_false_iff.mpr c17
       subst c17
       rw [if_neg (show ¬ (false = true) by decide)] at H
       obtain rfl := Option.some.inj H
       obtain ⟨z29_0, z29_1, z29_2, z29_3, z29_4, z29_5, y29_0, y29_1, y29_2, y29_3, y29_4, y29_5⟩ := Cz.d6 BK245
       go_wp2_with (first | ((with_reducible refine gate_callee (f := 33) rfl ?_); refine Cz.gL (N := (some 41)) Try.func33 #[.slice A0_5 l0_5.length c0_5] ?_; (with_reducible refine (waggonerref10_List.calls _ _ l0_5 t246 _ ?side1 ?side2 A15.out).mono ?_); (case side1 => exact Cz.cb HR0_5); (case side2 => exact HC0_5.out); rintro e w30 ⟨rfl, hb⟩; refine ⟨_, rfl, ?_⟩; replace BK245 := Cz.bk BK245 hb; replace HB := Cz.bs (w := w) hb; (try clear hb); obtain ⟨z31_0, z31_1, z31_2, z31_3, z31_4, z31_5, y31_0, y31_1, y31_2, y31_3, y31_4, y31_5⟩ := Cz.d6 BK245))
       go_ret
       exact ⟨Cz.er, Cz.bl (w := w)⟩
     ·rw [if_neg c16] at H
      have c16b0 : (a0_0 == 1) = false := beq_eq_false_iff_ne.mpr c16
      have c16b1 : (a0_0 != 1) = true := bne_iff_ne.mpr c16
      have HC32 := Aside0.mk H
      clear H
      obtain ⟨z33_0, z33_1, z33_2, z33_3, z33_4, z33_5, y33_0, y33_1, y33_2, y33_3, y33_4, y33_5⟩ := Cz.d6 BK245
      go_upto_if 65 with (first | ((with_reducible refine gate_callee (f := 33) rfl ?_); refine Cz.gL (N := (some 41)) Try.func33 #[.slice A0_5 l0_5.length c0_5] ?_; (with_reducible refine (waggonerref10_List.calls _ _ l0_5 t246 _ ?side1 ?side2 A15.out).mono ?_); (case side1 => exact Cz.cb HR0_5); (case side2 => exact HC0_5.out); rintro e w34 ⟨rfl, hb⟩; refine ⟨_, rfl, ?_⟩; replace BK245 := Cz.bk BK245 hb; replace HB := Cz.bs (w := w) hb; (try clear hb); obtain ⟨z35_0, z35_1, z35_2, z35_3, z35_4, z35_5, y35_0, y35_1, y35_2, y35_3, y35_4, y35_5⟩ := Cz.d6 BK245))
      (try simp only [Act.put, Kx.sb, Kx.sz, Kx.ss])
      go_cut [65] (fun v65 wc => ∃ (kq : Nat) (x65_31 : Bool), v65 = .bool x65_31 ∧ Aside0 (waggonerref10_Check_p.j2 kq x3_1 x4_10 (l0_4.length : Int) t246 a0_0 x65_31 a0_0 a0_1 a0_2 a0_3 l0_4 l0_5 = some r) ∧ Aside0 (kq ≤ kj10) ∧ Aside0 (wc.heap[gb245]? = some (.cells #[.int .i64 a0_0, .int .i64 a0_1, .int .i64 a0_2, .int .i64 a0_3, (.slice A0_4 l0_4.length c0_4), (.slice A0_5 l0_5.length c0_5)] 26 (0, 0))) ∧ Aside0 (Below w.heap.size w wc))
      case first =>
       have H := HC32.out
       clear HC32
       by_cases c36 : a0_0 = 2
       ·rw [if_pos c36] at H
        have c36b0 : (a0_0 == 2) = true := beq_iff_eq.mpr c36
        have c36b1 : (a0_0 != 2) = false := bne_eq_false_iff_eq.mpr c36
        clear c36
        (first | rw [c36b0] | (simp only [i64_w, i32_w]; rw [c36b0]) | skip)
        have H' := Aside0.mk H
        clear H
        go_wp2
        go_meet
        case rel => exact ⟨_, ((a0_0 == 2)), Cz.si, H', ⟨by have := HJ1.out; have := HJ10.out; first | omega | exact Nat.le_refl _⟩, ⟨by (with_reducible repeat (first | refine blk_drewN ?_ _ | refine blk_drew ?_ | refine blk_alloc ?_ _)); exact BK245.out⟩, ⟨Cz.bl (w := w)⟩⟩
       ·rw [if_neg c36] at H
        have c36b0 : (a0_0 == 2) = false := beq_eq_false_iff_ne.mpr c36
        have c36b1 : (a0_0 != 2) = true := bne_iff_ne.mpr c36
        (first | rw [c36b0] | (simp only [i64_w, i32_w]; rw [c36b0]) | skip)
        have H' := Aside0.mk H
        clear H
        go_wp2
        go_meet
        case rel => exact ⟨_, ((a0_0 == 3)), Cz.si, H', ⟨by have := HJ1.out; have := HJ10.out; first | omega | exact Nat.le_refl _⟩, ⟨by (with_reducible repeat (first | refine blk_drewN ?_ _ | refine blk_drew ?_ | refine blk_alloc ?_ _)); exact BK245.out⟩, ⟨Cz.bl (w := w)⟩⟩
      case rest =>
       clear HC32
       try clear c1
       try clear p2 p2
       try clear c3
       try clear c4
       try clear c4b0
       try clear c5
       try clear c5b0
       try clear c6
       try clear c6b0
       try clear p6 p6
       try clear c12
       try clear c12b0
       try clear c16
       try clear c16b0
       try clear c16b1
       try clear c17
       try clear c18
       try clear c18b0
       try clear c18b1
       try clear c19
       try clear c19b0
       try clear c19b1
       try clear c33
       try clear c36
       try clear c36b0
       try clear c36b1
       try clear z10_0 z10_1 z10_2 z10_3 z10_4 z10_5 y10_0 y10_1 y10_2 y10_3 y10_4 y10_5
       try clear z13_0 z13_1 z13_2 z13_3 z13_4 z13_5 y13_0 y13_1 y13_2 y13_3 y13_4 y13_5
       try clear z14_0 z14_1 z14_2 z14_3 z14_4 z14_5 y14_0 y14_1 y14_2 y14_3 y14_4 y14_5
       try clear z20_0 z20_1 z20_2 z20_3 z20_4 z20_5 y20_0 y20_1 y20_2 y20_3 y20_4 y20_5
       try clear z22_0 z22_1 z22_2 z22_3 z22_4 z22_5 y22_0 y22_1 y22_2 y22_3 y22_4 y22_5
       try clear z23_0 z23_1 z23_2 z23_3 z23_4 z23_5 y23_0 y23_1 y23_2 y23_3 y23_4 y23_5
       try clear z25_0 z25_1 z25_2 z25_3 z25_4 z25_5 y25_0 y25_1 y25_2 y25_3 y25_4 y25_5
       try clear z26_0 z26_1 z26_2 z26_3 z26_4 z26_5 y26_0 y26_1 y26_2 y26_3 y26_4 y26_5
       try clear z28_0 z28_1 z28_2 z28_3 z28_4 z28_5 y28_0 y28_1 y28_2 y28_3 y28_4 y28_5
       try clear z29_0 z29_1 z29_2 z29_3 z29_4 z29_5 y29_0 y29_1 y29_2 y29_3 y29_4 y29_5
       try clear z31_0 z31_1 z31_2 z31_3 z31_4 z31_5 y31_0 y31_1 y31_2 y31_3 y31_4 y31_5
       try clear z33_0 z33_1 z33_2 z33_3 z33_4 z33_5 y33_0 y33_1 y33_2 y33_3 y33_4 y33_5
       try clear z35_0 z35_1 z35_2 z35_3 z35_4 z35_5 y35_0 y35_1 y35_2 y35_3 y35_4 y35_5
       try clear z7_0 z7_1 z7_2 z7_3 z7_4 z7_5 y7_0 y7_1 y7_2 y7_3 y7_4 y7_5
       try clear z8_0 z8_1 z8_2 z8_3 z8_4 z8_5 y8_0 y8_1 y8_2 y8_3 y8_4 y8_5
       try clear z9_0 z9_1 z9_2 z9_3 z9_4 z9_5 y9_0 y9_1 y9_2 y9_3 y9_4 y9_5
       obtain ⟨kq, x65_31, rfl, HA, HJ31, BK245, HB⟩ := hcut
       cases kq with
       | zero => exact absurd HA.out (by simp [waggonerref10_Check_p.j2])
       | succ kj31 =>
        have H := HA.out
        clear HA
        simp only [waggonerref10_Check_p.j2] at H
        by_cases c37 : x65_31 = true
        ·subst c37
         rw [if_pos rfl] at H
         by_cases c38 : x3_1 = true
         ·subst c38
          rw [if_pos rfl] at H
          by_cases c39 : a0_3 = 0
          ·rw [if_pos c39] at H
           have c39b0 : (a0_3 == 0) = true := beq_iff_eq.mpr c39
           have c39b1 : (a0_3 != 0) = false := bne_eq_false_iff_eq.mpr c39
           clear c39
           by_cases c40 : (l0_4.length : Int) = 0
           ·rw [if_pos c40] at H
            have c40b0 : ((l0_4.length : Int) == 0) = true := beq_iff_eq.mpr c40
            have c40b1 : ((l0_4.length : Int) != 0) = false := bne_eq_false_iff_eq.mpr c40
            clear c40
            obtain rfl := Option.some.inj H
            obtain ⟨z41_0, z41_1, z41_2, z41_3, z41_4, z41_5, y41_0, y41_1, y41_2, y41_3, y41_4, y41_5⟩ := Cz.d6 BK245
            go_wp2
            go_ret
            exact ⟨Cz.er, Cz.bl (w := w)⟩
           ·rw [if_neg c40] at H
            have c40b0 : ((l0_4.length : Int) == 0) = false := beq_eq_false_iff_ne.mpr c40
            have c40b1 : ((l0_4.length : Int) != 0) = true := bne_iff_ne.mpr c40
            have c40b2 : ¬ (l0_4 = []) := fun h_ => c40 (by rw [h_]; rfl)
            obtain rfl := Option.some.inj H
            obtain ⟨z42_0, z42_1, z42_2, z42_3, z42_4, z42_5, y42_0, y42_1, y42_2, y42_3, y42_4, y42_5⟩ := Cz.d6 BK245
            go_wp2
            go_ret
            exact ⟨Cz.er, Cz.bl (w := w)⟩
          ·rw [if_neg c39] at H
           have c39b0 : (a0_3 == 0) = false := beq_eq_false_iff_ne.mpr c39
           have c39b1 : (a0_3 != 0) = true := bne_iff_ne.mpr c39
           obtain rfl := Option.some.inj H
           obtain ⟨z43_0, z43_1, z43_2, z43_3, z43_4, z43_5, y43_0, y43_1, y43_2, y43_3, y43_4, y43_5⟩ := Cz.d6 BK245
           go_wp2
           go_ret
           exact ⟨Cz.er, Cz.bl (w := w)⟩
         ·replace c38 := Bool.eq_false_iff.mpr c38
          subst c38
          rw [if_neg (show ¬ (false = true) by decide)] at H
          obtain rfl := Option.some.inj H
          go_wp2
          go_ret
          exact ⟨Cz.er, Cz.bl (w := w)⟩
        ·replace c37 := Bool.eq_false_iff.mpr c37
         subst c37
         rw [if_neg (show ¬ (false = true) by decide)] at H
         have HC44 := Aside0.mk H
         clear H
         go_upto_if 84 with (fail)
         go_cut [84] (fun v84 wc => ∃ (kq : Nat) (x84_43 : Bool), v84 = .bool x84_43 ∧ Aside0 (waggonerref10_Check_p.j3 kq x4_10 (l0_4.length : Int) t246 a0_0 x84_43 a0_0 a0_1 a0_2 a0_3 l0_4 l0_5 = some r) ∧ Aside0 (kq ≤ kj31) ∧ Aside0 (wc.heap[gb245]? = some (.cells #[.int .i64 a0_0, .int .i64 a0_1, .int .i64 a0_2, .int .i64 a0_3, (.slice A0_4 l0_4.length c0_4), (.slice A0_5 l0_5.length c0_5)] 26 (0, 0))) ∧ Aside0 (Below w.heap.size w wc))
         case first =>
          have H := HC44.out
          clear HC44
          by_cases c45 : a0_0 = 4
          ·rw [if_pos c45] at H
           have c45b0 : (a0_0 == 4) = true := beq_iff_eq.mpr c45
           have c45b1 : (a0_0 != 4) = false := bne_eq_false_iff_eq.mpr c45
           clear c45
           (first | rw [c45b0] | (simp only [i64_w, i32_w]; rw [c45b0]) | skip)
           have H' := Aside0.mk H
           clear H
           go_wp2
           go_meet
           case rel => exact ⟨_, ((a0_0 == 4)), Cz.si, H', ⟨by have := HJ1.out; have := HJ10.out; have := HJ31.out; first | omega | exact Nat.le_refl _⟩, ⟨by (with_reducible repeat (first | refine blk_drewN ?_ _ | refine blk_drew ?_ | refine blk_alloc ?_ _)); exact BK245.out⟩, ⟨Cz.bl (w := w)⟩⟩
          ·rw [if_neg c45] at H
           have c45b0 : (a0_0 == 4) = false := beq_eq_false_iff_ne.mpr c45
           have c45b1 : (a0_0 != 4) = true := bne_iff_ne.mpr c45
           (first | rw [c45b0] | (simp only [i64_w, i32_w]; rw [c45b0]) | skip)
           have H' := Aside0.mk H
           clear H
           go_wp2
           go_meet
           case rel => exact ⟨_, ((a0_0 == 5)), Cz.si, H', ⟨by have := HJ1.out; have := HJ10.out; have := HJ31.out; first | omega | exact Nat.le_refl _⟩, ⟨by (with_reducible repeat (first | refine blk_drewN ?_ _ | refine blk_drew ?_ | refine blk_alloc ?_ _)); exact BK245.out⟩, ⟨Cz.bl (w := w)⟩⟩
         case rest =>
          clear HC44
          try clear c1
          try clear p2 p2
          try clear c3
          try clear c4
          try clear c4b0
          try clear c5
          try clear c5b0
          try clear c6
          try clear c6b0
          try clear p6 p6
          try clear c12
          try clear c12b0
          try clear c16
          try clear c16b0
          try clear c16b1
          try clear c17
          try clear c18
          try clear c18b0
          try clear c18b1
          try clear c19
          try clear c19b0
          try clear c19b1
          try clear c33
          try clear c36
          try clear c36b0
          try clear c36b1
          try clear c37
          try clear c38
          try clear c39
          try clear c39b0
          try clear c39b1
          try clear c40
          try clear c40b0
          try clear c40b1
          try clear c40b2
          try clear c45
          try clear c45b0
          try clear c45b1
          try clear z10_0 z10_1 z10_2 z10_3 z10_4 z10_5 y10_0 y10_1 y10_2 y10_3 y10_4 y10_5
          try clear z13_0 z13_1 z13_2 z13_3 z13_4 z13_5 y13_0 y13_1 y13_2 y13_3 y13_4 y13_5
          try clear z14_0 z14_1 z14_2 z14_3 z14_4 z14_5 y14_0 y14_1 y14_2 y14_3 y14_4 y14_5
          try clear z20_0 z20_1 z20_2 z20_3 z20_4 z20_5 y20_0 y20_1 y20_2 y20_3 y20_4 y20_5
          try clear z22_0 z22_1 z22_2 z22_3 z22_4 z22_5 y22_0 y22_1 y22_2 y22_3 y22_4 y22_5
          try clear z23_0 z23_1 z23_2 z23_3 z23_4 z23_5 y23_0 y23_1 y23_2 y23_3 y23_4 y23_5
          try clear z25_0 z25_1 z25_2 z25_3 z25_4 z25_5 y25_0 y25_1 y25_2 y25_3 y25_4 y25_5
          try clear z26_0 z26_1 z26_2 z26_3 z26_4 z26_5 y26_0 y26_1 y26_2 y26_3 y26_4 y26_5
          try clear z28_0 z28_1 z28_2 z28_3 z28_4 z28_5 y28_0 y28_1 y28_2 y28_3 y28_4 y28_5
          try clear z29_0 z29_1 z29_2 z29_3 z29_4 z29_5 y29_0 y29_1 y29_2 y29_3 y29_4 y29_5
          try clear z31_0 z31_1 z31_2 z31_3 z31_4 z31_5 y31_0 y31_1 y31_2 y31_3 y31_4 y31_5
          try clear z33_0 z33_1 z33_2 z33_3 z33_4 z33_5 y33_0 y33_1 y33_2 y33_3 y33_4 y33_5
          try clear z35_0 z35_1 z35_2 z35_3 z35_4 z35_5 y35_0 y35_1 y35_2 y35_3 y35_4 y35_5
          try clear z41_0 z41_1 z41_2 z41_3 z41_4 z41_5 y41_0 y41_1 y41_2 y41_3 y41_4 y41_5
          try clear z42_0 z42_1 z42_2 z42_3 z42_4 z42_5 y42_0 y42_1 y42_2 y42_3 y42_4 y42_5
          try clear z43_0 z43_1 z43_2 z43_3 z43_4 z43_5 y43_0 y43_1 y43_2 y43_3 y43_4 y43_5
          try clear z7_0 z7_1 z7_2 z7_3 z7_4 z7_5 y7_0 y7_1 y7_2 y7_3 y7_4 y7_5
          try clear z8_0 z8_1 z8_2 z8_3 z8_4 z8_5 y8_0 y8_1 y8_2 y8_3 y8_4 y8_5
          try clear z9_0 z9_1 z9_2 z9_3 z9_4 z9_5 y9_0 y9_1 y9_2 y9_3 y9_4 y9_5
          obtain ⟨kq, x84_43, rfl, HA, HJ43, BK245, HB⟩ := hcut
          cases kq with
          | zero => exact absurd HA.out (by simp [waggonerref10_Check_p.j3])
          | succ kj43 =>
           have H := HA.out
           clear HA
           simp only [waggonerref10_Check_p.j3] at H
           by_cases c46 : x84_43 = true
           ·subst c46
            rw [if_pos rfl] at H
            by_cases c47 : a0_1 = 0
            ·rw [if_pos c47] at H
             have c47b0 : (a0_1 == 0) = true := beq_iff_eq.mpr c47
             have c47b1 : (a0_1 != 0) = false := bne_eq_false_iff_eq.mpr c47
             clear c47
             by_cases c48 : a0_2 = 0
             ·rw [if_pos c48] at H
              have c48b0 : (a0_2 == 0) = true := beq_iff_eq.mpr c48
              have c48b1 : (a0_2 != 0) = false := bne_eq_false_iff_eq.mpr c48
              clear c48
              by_cases c49 : x4_10 = true
              ·subst c49
               rw [if_pos rfl] at H
               by_cases c50 : (l0_4.length : Int) = 0
               ·rw [if_pos c50] at H
                have c50b0 : ((l0_4.length : Int) == 0) = true := beq_iff_eq.mpr c50
                have c50b1 : ((l0_4.length : Int) != 0) = false := bne_eq_false_iff_eq.mpr c50
                clear c50
                obtain rfl := Option.some.inj H
                obtain ⟨z51_0, z51_1, z51_2, z51_3, z51_4, z51_5, y51_0, y51_1, y51_2, y51_3, y51_4, y51_5⟩ := Cz.d6 BK245
                go_wp2
                go_ret
                exact ⟨Cz.er, Cz.bl (w := w)⟩
               ·rw [if_neg c50] at H
                have c50b0 : ((l0_4.length : Int) == 0) = false := beq_eq_false_iff_ne.mpr c50
                have c50b1 : ((l0_4.length : Int) != 0) = true := bne_iff_ne.mpr c50
                have c50b2 : ¬ (l0_4 = []) := fun h_ => c50 (by rw [h_]; rfl)
                obtain rfl := Option.some.inj H
                obtain ⟨z52_0, z52_1, z52_2, z52_3, z52_4, z52_5, y52_0, y52_1, y52_2, y52_3, y52_4, y52_5⟩ := Cz.d6 BK245
                go_wp2
                go_ret
                exact ⟨Cz.er, Cz.bl (w := w)⟩
              ·replace c49 := Bool.eq_false_iff.mpr c49
               subst c49
               rw [if_neg (show ¬ (false = true) by decide)] at H
               obtain rfl := Option.some.inj H
               obtain ⟨z53_0, z53_1, z53_2, z53_3, z53_4, z53_5, y53_0, y53_1, y53_2, y53_3, y53_4, y53_5⟩ := Cz.d6 BK245
               go_wp2
               go_ret
               exact ⟨Cz.er, Cz.bl (w := w)⟩
             ·rw [if_neg c48] at H
              have c48b0 : (a0_2 == 0) = false := beq_eq_false_iff_ne.mpr c48
              have c48b1 : (a0_2 != 0) = true := bne_iff_ne.mpr c48
              obtain rfl := Option.some.inj H
              obtain ⟨z54_0, z54_1, z54_2, z54_3, z54_4, z54_5, y54_0, y54_1, y54_2, y54_3, y54_4, y54_5⟩ := Cz.d6 BK245
              go_wp2
              go_ret
              exact ⟨Cz.er, Cz.bl (w := w)⟩
            ·rw [if_neg c47] at H
             have c47b0 : (a0_1 == 0) = false := beq_eq_false_iff_ne.mpr c47
             have c47b1 : (a0_1 != 0) = true := bne_iff_ne.mpr c47
             obtain rfl := Option.some.inj H
             obtain ⟨z55_0, z55_1, z55_2, z55_3, z55_4, z55_5, y55_0, y55_1, y55_2, y55_3, y55_4, y55_5⟩ := Cz.d6 BK245
             go_wp2
             go_ret
             exact ⟨Cz.er, Cz.bl (w := w)⟩
           ·replace c46 := Bool.eq_false_iff.mpr c46
            subst c46
            rw [if_neg (show ¬ (false = true) by decide)] at H
            by_cases c56 : a0_0 = 6
            ·rw [if_pos c56] at H
             have c56b0 : (a0_0 == 6) = true := beq_iff_eq.mpr c56
             have c56b1 : (a0_0 != 6) = false := bne_eq_false_iff_eq.mpr c56
             clear c56
             by_cases c57 : a0_1 = 0
             ·rw [if_pos c57] at H
              have c57b0 : (a0_1 == 0) = true := beq_iff_eq.mpr c57
              have c57b1 : (a0_1 != 0) = false := bne_eq_false_iff_eq.mpr c57
              clear c57
              by_cases c58 : a0_2 = 0
              ·rw [if_pos c58] at H
               have c58b0 : (a0_2 == 0) = true := beq_iff_eq.mpr c58
               have c58b1 : (a0_2 != 0) = false := bne_eq_false_iff_eq.mpr c58
               clear c58
               by_cases c59 : a0_3 = 0
               ·rw [if_pos c59] at H
                have c59b0 : (a0_3 == 0) = true := beq_iff_eq.mpr c59
                have c59b1 : (a0_3 != 0) = false := bne_eq_false_iff_eq.mpr c59
                clear c59
                by_cases c60 : (l0_4.length : Int) ≥ 1
                ·rw [if_pos c60] at H
                 have c60b0 : decide (1 ≤ (l0_4.length : Int)) = true := decide_eq_true c60
                 have c60b1 : decide (1 ≤ l0_4.length) = true := decide_eq_true (by omega)
                 clear c60
                 by_cases c61 : (l0_4.length : Int) ≤ 1000
                 ·rw [if_pos c61] at H
                  have c61b0 : decide ((l0_4.length : Int) ≤ 1000) = true := decide_eq_true c61
                  have c61b1 : decide (l0_4.length ≤ 1000) = true := decide_eq_true (by omega)
                  clear c61
                  obtain rfl := Option.some.inj H
                  obtain ⟨z62_0, z62_1, z62_2, z62_3, z62_4, z62_5, y62_0, y62_1, y62_2, y62_3, y62_4, y62_5⟩ := Cz.d6 BK245
                  go_wp2
                  go_ret
                  exact ⟨Cz.er, Cz.bl (w := w)⟩
                 ·rw [if_neg c61] at H
                  have c61b0 : decide ((l0_4.length : Int) ≤ 1000) = false := decide_eq_false c61
                  have c61b1 : decide (l0_4.length ≤ 1000) = false := decide_eq_false (by omega)
                  clear c61
                  obtain rfl := Option.some.inj H
                  obtain ⟨z63_0, z63_1, z63_2, z63_3, z63_4, z63_5, y63_0, y63_1, y63_2, y63_3, y63_4, y63_5⟩ := Cz.d6 BK245
                  go_wp2
                  go_ret
                  exact ⟨Cz.er, Cz.bl (w := w)⟩
                ·rw [if_neg c60] at H
                 have c60b0 : decide (1 ≤ (l0_4.length : Int)) = false := decide_eq_false c60
                 have c60b1 : decide (1 ≤ l0_4.length) = false := decide_eq_false (by omega)
                 clear c60
                 obtain rfl := Option.some.inj H
                 obtain ⟨z64_0, z64_1, z64_2, z64_3, z64_4, z64_5, y64_0, y64_1, y64_2, y64_3, y64_4, y64_5⟩ := Cz.d6 BK245
                 go_wp2
                 go_ret
                 exact ⟨Cz.er, Cz.bl (w := w)⟩
               ·rw [if_neg c59] at H
                have c59b0 : (a0_3 == 0) = false := beq_eq_false_iff_ne.mpr c59
                have c59b1 : (a0_3 != 0) = true := bne_iff_ne.mpr c59
                obtain rfl := Option.some.inj H
                obtain ⟨z65_0, z65_1, z65_2, z65_3, z65_4, z65_5, y65_0, y65_1, y65_2, y65_3, y65_4, y65_5⟩ := Cz.d6 BK245
                go_wp2
                go_ret
                exact ⟨Cz.er, Cz.bl (w := w)⟩
              ·rw [if_neg c58] at H
               have c58b0 : (a0_2 == 0) = false := beq_eq_false_iff_ne.mpr c58
               have c58b1 : (a0_2 != 0) = true := bne_iff_ne.mpr c58
               obtain rfl := Option.some.inj H
               obtain ⟨z66_0, z66_1, z66_2, z66_3, z66_4, z66_5, y66_0, y66_1, y66_2, y66_3, y66_4, y66_5⟩ := Cz.d6 BK245
               go_wp2
               go_ret
               exact ⟨Cz.er, Cz.bl (w := w)⟩
             ·rw [if_neg c57] at H
              have c57b0 : (a0_1 == 0) = false := beq_eq_false_iff_ne.mpr c57
              have c57b1 : (a0_1 != 0) = true := bne_iff_ne.mpr c57
              obtain rfl := Option.some.inj H
              obtain ⟨z67_0, z67_1, z67_2, z67_3, z67_4, z67_5, y67_0, y67_1, y67_2, y67_3, y67_4, y67_5⟩ := Cz.d6 BK245
              go_wp2
              go_ret
              exact ⟨Cz.er, Cz.bl (w := w)⟩
            ·rw [if_neg c56] at H
             have c56b0 : (a0_0 == 6) = false := beq_eq_false_iff_ne.mpr c56
             have c56b1 : (a0_0 != 6) = true := bne_iff_ne.mpr c56
             by_cases c68 : a0_0 = 7
             ·rw [if_pos c68] at H
              have c68b0 : (a0_0 == 7) = true := beq_iff_eq.mpr c68
              have c68b1 : (a0_0 != 7) = false := bne_eq_false_iff_eq.mpr c68
              clear c68
              by_cases c69 : a0_1 = 0
              ·rw [if_pos c69] at H
               have c69b0 : (a0_1 == 0) = true := beq_iff_eq.mpr c69
               have c69b1 : (a0_1 != 0) = false := bne_eq_false_iff_eq.mpr c69
               clear c69
               by_cases c70 : a0_2 = 0
               ·rw [if_pos c70] at H
                have c70b0 : (a0_2 == 0) = true := beq_iff_eq.mpr c70
                have c70b1 : (a0_2 != 0) = false := bne_eq_false_iff_eq.mpr c70
                clear c70
                by_cases c71 : a0_3 = 0
                ·rw [if_pos c71] at H
                 have c71b0 : (a0_3 == 0) = true := beq_iff_eq.mpr c71
                 have c71b1 : (a0_3 != 0) = false := bne_eq_false_iff_eq.mpr c71
                 clear c71
                 by_cases c72 : (l0_4.length : Int) = 0
                 ·rw [if_pos c72] at H
                  have c72b0 : ((l0_4.length : Int) == 0) = true := beq_iff_eq.mpr c72
                  have c72b1 : ((l0_4.length : Int) != 0) = false := bne_eq_false_iff_eq.mpr c72
                  clear c72
                  obtain rfl := Option.some.inj H
                  obtain ⟨z73_0, z73_1, z73_2, z73_3, z73_4, z73_5, y73_0, y73_1, y73_2, y73_3, y73_4, y73_5⟩ := Cz.d6 BK245
                  go_wp2
                  go_ret
                  exact ⟨Cz.er, Cz.bl (w := w)⟩
                 ·rw [if_neg c72] at H
                  have c72b0 : ((l0_4.length : Int) == 0) = false := beq_eq_false_iff_ne.mpr c72
                  have c72b1 : ((l0_4.length : Int) != 0) = true := bne_iff_ne.mpr c72
                  have c72b2 : ¬ (l0_4 = []) := fun h_ => c72 (by rw [h_]; rfl)
                  obtain rfl := Option.some.inj H
                  obtain ⟨z74_0, z74_1, z74_2, z74_3, z74_4, z74_5, y74_0, y74_1, y74_2, y74_3, y74_4, y74_5⟩ := Cz.d6 BK245
                  go_wp2
                  go_ret
                  exact ⟨Cz.er, Cz.bl (w := w)⟩
                ·rw [if_neg c71] at H
                 have c71b0 : (a0_3 == 0) = false := beq_eq_false_iff_ne.mpr c71
                 have c71b1 : (a0_3 != 0) = true := bne_iff_ne.mpr c71
                 obtain rfl := Option.some.inj H
                 obtain ⟨z75_0, z75_1, z75_2, z75_3, z75_4, z75_5, y75_0, y75_1, y75_2, y75_3, y75_4, y75_5⟩ := Cz.d6 BK245
                 go_wp2
                 go_ret
                 exact ⟨Cz.er, Cz.bl (w := w)⟩
               ·rw [if_neg c70] at H
                have c70b0 : (a0_2 == 0) = false := beq_eq_false_iff_ne.mpr c70
                have c70b1 : (a0_2 != 0) = true := bne_iff_ne.mpr c70
                obtain rfl := Option.some.inj H
                obtain ⟨z76_0, z76_1, z76_2, z76_3, z76_4, z76_5, y76_0, y76_1, y76_2, y76_3, y76_4, y76_5⟩ := Cz.d6 BK245
                go_wp2
                go_ret
                exact ⟨Cz.er, Cz.bl (w := w)⟩
              ·rw [if_neg c69] at H
               have c69b0 : (a0_1 == 0) = false := beq_eq_false_iff_ne.mpr c69
               have c69b1 : (a0_1 != 0) = true := bne_iff_ne.mpr c69
               obtain rfl := Option.some.inj H
               obtain ⟨z77_0, z77_1, z77_2, z77_3, z77_4, z77_5, y77_0, y77_1, y77_2, y77_3, y77_4, y77_5⟩ := Cz.d6 BK245
               go_wp2
               go_ret
               exact ⟨Cz.er, Cz.bl (w := w)⟩
             ·rw [if_neg c68] at H
              have c68b0 : (a0_0 == 7) = false := beq_eq_false_iff_ne.mpr c68
              have c68b1 : (a0_0 != 7) = true := bne_iff_ne.mpr c68
              by_cases c78 : a0_0 = 8
              ·rw [if_pos c78] at H
               have c78b0 : (a0_0 == 8) = true := beq_iff_eq.mpr c78
               have c78b1 : (a0_0 != 8) = false := bne_eq_false_iff_eq.mpr c78
               clear c78
               by_cases c79 : a0_1 = 0
               ·rw [if_pos c79] at H
                have c79b0 : (a0_1 == 0) = true := beq_iff_eq.mpr c79
                have c79b1 : (a0_1 != 0) = false := bne_eq_false_iff_eq.mpr c79
                clear c79
                by_cases c80 : a0_2 = 0
                ·rw [if_pos c80] at H
                 have c80b0 : (a0_2 == 0) = true := beq_iff_eq.mpr c80
                 have c80b1 : (a0_2 != 0) = false := bne_eq_false_iff_eq.mpr c80
                 clear c80
                 by_cases c81 : x4_10 = true
                 ·subst c81
                  rw [if_pos rfl] at H
                  by_cases c82 : (l0_4.length : Int) = 0
                  ·rw [if_pos c82] at H
                   have c82b0 : ((l0_4.length : Int) == 0) = true := beq_iff_eq.mpr c82
                   have c82b1 : ((l0_4.length : Int) != 0) = false := bne_eq_false_iff_eq.mpr c82
                   clear c82
                   obtain rfl := Option.some.inj H
                   obtain ⟨z83_0, z83_1, z83_2, z83_3, z83_4, z83_5, y83_0, y83_1, y83_2, y83_3, y83_4, y83_5⟩ := Cz.d6 BK245
                   go_wp2
                   go_ret
                   exact ⟨Cz.er, Cz.bl (w := w)⟩
                  ·rw [if_neg c82] at H
                   have c82b0 : ((l0_4.length : Int) == 0) = false := beq_eq_false_iff_ne.mpr c82
                   have c82b1 : ((l0_4.length : Int) != 0) = true := bne_iff_ne.mpr c82
                   have c82b2 : ¬ (l0_4 = []) := fun h_ => c82 (by rw [h_]; rfl)
                   obtain rfl := Option.some.inj H
                   obtain ⟨z84_0, z84_1, z84_2, z84_3, z84_4, z84_5, y84_0, y84_1, y84_2, y84_3, y84_4, y84_5⟩ := Cz.d6 BK245
                   go_wp2
                   go_ret
                   exact ⟨Cz.er, Cz.bl (w := w)⟩
                 ·replace c81 := Bool.eq_false_iff.mpr c81
                  subst c81
                  rw [if_neg (show ¬ (false = true) by decide)] at H
                  obtain rfl := Option.some.inj H
                  obtain ⟨z85_0, z85_1, z85_2, z85_3, z85_4, z85_5, y85_0, y85_1, y85_2, y85_3, y85_4, y85_5⟩ := Cz.d6 BK245
                  go_wp2
                  go_ret
                  exact ⟨Cz.er, Cz.bl (w := w)⟩
                ·rw [if_neg c80] at H
                 have c80b0 : (a0_2 == 0) = false := beq_eq_false_iff_ne.mpr c80
                 have c80b1 : (a0_2 != 0) = true := bne_iff_ne.mpr c80
                 obtain rfl := Option.some.inj H
                 obtain ⟨z86_0, z86_1, z86_2, z86_3, z86_4, z86_5, y86_0, y86_1, y86_2, y86_3, y86_4, y86_5⟩ := Cz.d6 BK245
                 go_wp2
                 go_ret
                 exact ⟨Cz.er, Cz.bl (w := w)⟩
               ·rw [if_neg c79] at H
                have c79b0 : (a0_1 == 0) = false := beq_eq_false_iff_ne.mpr c79
                have c79b1 : (a0_1 != 0) = true := bne_iff_ne.mpr c79
                obtain rfl := Option.some.inj H
                obtain ⟨z87_0, z87_1, z87_2, z87_3, z87_4, z87_5, y87_0, y87_1, y87_2, y87_3, y87_4, y87_5⟩ := Cz.d6 BK245
                go_wp2
                go_ret
                exact ⟨Cz.er, Cz.bl (w := w)⟩
              ·rw [if_neg c78] at H
               have c78b0 : (a0_0 == 8) = false := beq_eq_false_iff_ne.mpr c78
               have c78b1 : (a0_0 != 8) = true := bne_iff_ne.mpr c78
               obtain rfl := Option.some.inj H
               go_wp2
               go_ret
               exact ⟨Cz.er, Cz.bl (w := w)⟩
end Go.Proofs.Ytmgohkffphogdaa.PU
