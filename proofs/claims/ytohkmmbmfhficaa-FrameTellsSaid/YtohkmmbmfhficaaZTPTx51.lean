/- Words and walks that this claim names, of those that the kit's print and programs of this workplace have printed. -/
import Derived.Test.YtohkmmbmfhficaaZTCz
import Derived.Test.YtohkmmbmfhficaaZTPTx11
import Derived.Test.YtohkmmbmfhficaaZTPTx50
namespace Go.Proofs.Ytohkmmbmfhficaa.PT
open Go.Proofs.Ytohkmmbmfhficaa Go.RowKit Go.Proofs.YtohkmmbmfhficaaW.PrintWords Go.Proofs.YtohkmmbmfhficaaW.PrintLast Go.Proofs.YtohkmmbmfhficaaW.PrintMore
attribute [local go_sem] max2_int min2_int max_two min_two max_three min_three max_four min_four
set_option linter.unusedVariables false
set_option linter.unusedSimpArgs false
mutual
def waggonerref16_Check_p.j0 : Nat → Bool → Int → Int → Int → List Int → Int → Int → Int → Option (Bool)
 | 0, _, _, _, _, _, _, _, _ => none
 | k + 1, x3, x270000, x270001, x270002, x270003, x270004, x270005, x270006 => if x270004 = 0 then (if x270005 = 0 then (waggonerref16_Check_p.j1 k x3 (x270006 == 0) x270000 x270001 x270002 x270003 x270004 x270005 x270006) else (waggonerref16_Check_p.j1 k x3 false x270000 x270001 x270002 x270003 x270004 x270005 x270006)) else (waggonerref16_Check_p.j1 k x3 false x270000 x270001 x270002 x270003 x270004 x270005 x270006)
def waggonerref16_Check_p.j1 : Nat → Bool → Bool → Int → Int → Int → List Int → Int → Int → Int → Option (Bool)
 | 0, _, _, _, _, _, _, _, _, _ => none
 | k + 1, x3, x4, x270000, x270001, x270002, x270003, x270004, x270005, x270006 => if x270001 = 0 then (if x270002 = 0 then (waggonerref16_Check_p.j2 k x3 x4 ((x270003.length : Int) == 0) x270000 x270001 x270002 x270003 x270004 x270005 x270006) else (waggonerref16_Check_p.j2 k x3 x4 false x270000 x270001 x270002 x270003 x270004 x270005 x270006)) else (waggonerref16_Check_p.j2 k x3 x4 false x270000 x270001 x270002 x270003 x270004 x270005 x270006)
def waggonerref16_Check_p.j2 : Nat → Bool → Bool → Bool → Int → Int → Int → List Int → Int → Int → Int → Option (Bool)
 | 0, _, _, _, _, _, _, _, _, _, _ => none
 | k + 1, x3, x4, x5, x270000, x270001, x270002, x270003, x270004, x270005, x270006 => (waggonerref16_zeros.f x270003).bind fun t270 => (if x270000 = 1 then (if x5 = true then (if x270004 ≥ 1 then (if x270004 ≤ 64 then (if x270005 ≥ 0 then (if x270006 > x270005 then (some (decide (x270006 < 2147483648))) else (some false)) else (some false)) else (some false)) else (some false)) else (some false)) else (if x270000 = 2 then (if x3 = true then (if x4 = true then (if x270002 ≤ 16 then (if (x270003.length : Int) = (wrap64 (32 * x270002)) then (some (!t270)) else (some false)) else (some false)) else (some false)) else (some false)) else (if x270000 = 3 then (waggonerref16_Check_p.j3 k x3 x4 x5 x270000 (x270000 == 3) x270000 x270001 x270002 x270003 x270004 x270005 x270006) else (waggonerref16_Check_p.j3 k x3 x4 x5 x270000 (x270000 == 4) x270000 x270001 x270002 x270003 x270004 x270005 x270006))))
def waggonerref16_Check_p.j3 : Nat → Bool → Bool → Bool → Int → Bool → Int → Int → Int → List Int → Int → Int → Int → Option (Bool)
 | 0, _, _, _, _, _, _, _, _, _, _, _, _ => none
 | k + 1, x3, x4, x5, x59, x114, x270000, x270001, x270002, x270003, x270004, x270005, x270006 => if x114 = true then (if x3 = true then (if x4 = true then (some ((x270003.length : Int) == 0)) else (some false)) else (some false)) else (if x59 = 5 then (if x5 = true then (if x270004 ≥ 1 then (if x270004 ≤ 65535 then (if x270005 ≥ 0 then (if x270005 < 4294967296 then (some (x270006 == 0)) else (some false)) else (some false)) else (some false)) else (some false)) else (some false)) else (some false))
end
def waggonerref16_Check_p.f (k : Nat) (a0_0 : Int) (a0_1 : Int) (a0_2 : Int) (l0_3 : List Int) (a0_4 : Int) (a0_5 : Int) (a0_6 : Int) : Option (Bool) := if a0_1 ≥ 0 then (if a0_1 ≤ 64 then (if a0_2 ≥ 1 then (waggonerref16_Check_p.j0 k (decide (a0_2 ≤ (wrap64 (64 - a0_1)))) a0_0 a0_1 a0_2 l0_3 a0_4 a0_5 a0_6) else (waggonerref16_Check_p.j0 k false a0_0 a0_1 a0_2 l0_3 a0_4 a0_5 a0_6)) else (waggonerref16_Check_p.j0 k false a0_0 a0_1 a0_2 l0_3 a0_4 a0_5 a0_6)) else (waggonerref16_Check_p.j0 k false a0_0 a0_1 a0_2 l0_3 a0_4 a0_5 a0_6)
set_option maxHeartbeats 8000000 in
set_option maxRecDepth 100000 in
theorem waggonerref16_Check_p.calls (k : Nat) (a0_0 : Int) (a0_1 : Int) (a0_2 : Int) (A0_3 : Option Addr) (c0_3 : Nat) (l0_3 : List Int) (a0_4 : Int) (a0_5 : Int) (a0_6 : Int) (r : Bool) (w : World) (hr0_3 : Kd.C (Kd.int .u8) w A0_3 l0_3.length l0_3) (hc0_3 : l0_3.length ≤ c0_3) (h : waggonerref16_Check_p.f k a0_0 a0_1 a0_2 l0_3 a0_4 a0_5 a0_6 = some r) :
  Calls Try.prog 25 #[.agg #[.int .i64 a0_0, .int .i64 a0_1, .int .i64 a0_2, .slice A0_3 l0_3.length c0_3, .int .i64 a0_4, .int .i64 a0_5, .int .i64 a0_6]] w fun e w' => e = .returned (.bool r) ∧ Below w.heap.size w w' := by
 have hu38 := Try.underlying38
 have HR0_3 := Aside0.mk hr0_3
 have HC0_3 := Aside0.mk hc0_3
 clear hr0_3 hc0_3
 have HB := Aside0.mk (Below.refl w.heap.size w)
 have H : (if a0_1 ≥ 0 then (if a0_1 ≤ 64 then (if a0_2 ≥ 1 then (waggonerref16_Check_p.j0 k (decide (a0_2 ≤ (wrap64 (64 - a0_1)))) a0_0 a0_1 a0_2 l0_3 a0_4 a0_5 a0_6) else (waggonerref16_Check_p.j0 k false a0_0 a0_1 a0_2 l0_3 a0_4 a0_5 a0_6)) else (waggonerref16_Check_p.j0 k false a0_0 a0_1 a0_2 l0_3 a0_4 a0_5 a0_6)) else (waggonerref16_Check_p.j0 k false a0_0 a0_1 a0_2 l0_3 a0_4 a0_5 a0_6)) = some r := h
 clear h
 have HC2 := Aside0.mk H
 clear H
 go_enter Try.func25, Try.ntmps25
 go_upto_region 1 with (first | ((with_reducible refine gate_dst (N := 1) rfl ?_); (try (refine gate_guard (by rfl) ?_; dsimp only)); refine Cz.bx (N := 1) #[.int .i64 a0_0, .int .i64 a0_1, .int .i64 a0_2, .slice A0_3 l0_3.length c0_3, .int .i64 a0_4, .int .i64 a0_5, .int .i64 a0_6] 38 ?_; intro gb269 hg w3 hbox hb; have BK269 := Aside0.mk (hbox); have GW269 := Aside0.mk ((Cz.gs hg : w.heap.size ≤ gb269)); have GE269 := GW269; replace HB := Cz.bs (w := w) hb; clear hb hbox hg))
 (try simp only [Act.put, Kx.sb, Kx.sz, Kx.ss])
 go_cut [3] (fun v3 wc => ∃ (kq : Nat) (x3_1 : Bool), v3 = .bool x3_1 ∧ Aside0 (waggonerref16_Check_p.j0 kq x3_1 a0_0 a0_1 a0_2 l0_3 a0_4 a0_5 a0_6 = some r) ∧ Aside0 (kq ≤ k) ∧ Aside0 (wc.heap[gb269]? = some (.cells #[.int .i64 a0_0, .int .i64 a0_1, .int .i64 a0_2, (.slice A0_3 l0_3.length c0_3), .int .i64 a0_4, .int .i64 a0_5, .int .i64 a0_6] 38 (0, 0))) ∧ Aside0 (Below w.heap.size w wc))
 case first =>
  have H := HC2.out
  clear HC2
  by_cases c4 : a0_1 ≥ 0
  ·rw [if_pos c4] at H
   have c4b0 : decide (0 ≤ a0_1) = true := decide_eq_true c4
   clear c4
   (first | rw [c4b0] | (simp only [i64_w, i32_w]; rw [c4b0]) | skip)
   by_cases c5 : a0_1 ≤ 64
   ·rw [if_pos c5] at H
    have c5b0 : decide (a0_1 ≤ 64) = true := decide_eq_true c5
    clear c5
    by_cases c6 : a0_2 ≥ 1
    ·rw [if_pos c6] at H
     have c6b0 : decide (1 ≤ a0_2) = true := decide_eq_true c6
     clear c6
     have H' := Aside0.mk H
     clear H
     obtain ⟨z7_0, z7_1, z7_2, z7_3, z7_4, z7_5, z7_6, y7_0, y7_1, y7_2, y7_3, y7_4, y7_5, y7_6⟩ := Cz.d7 BK269
     go_wp2
     go_meet
     case rel => exact ⟨_, (decide (a0_2 ≤ (wrap64 (64 - a0_1)))), Cz.si, H', ⟨by first | omega | exact Nat.le_refl _⟩, ⟨by (with_reducible repeat (first | refine blk_drewN ?_ _ | refine blk_drew ?_ | refine blk_alloc ?_ _)); exact BK269.out⟩, ⟨Cz.bl (w := w)⟩⟩
    ·rw [if_neg c6] at H
     have c6b0 : decide (1 ≤ a0_2) = false := decide_eq_false c6
     clear c6
     have H' := Aside0.mk H
     clear H
     obtain ⟨z8_0, z8_1, z8_2, z8_3, z8_4, z8_5, z8_6, y8_0, y8_1, y8_2, y8_3, y8_4, y8_5, y8_6⟩ := Cz.d7 BK269
     go_wp2
     go_meet
     case rel => exact ⟨_, (false), Cz.si, H', ⟨by first | omega | exact Nat.le_refl _⟩, ⟨by (with_reducible repeat (first | refine blk_drewN ?_ _ | refine blk_drew ?_ | refine blk_alloc ?_ _)); exact BK269.out⟩, ⟨Cz.bl (w := w)⟩⟩
   ·rw [if_neg c5] at H
    have c5b0 : decide (a0_1 ≤ 64) = false := decide_eq_false c5
    clear c5
    have H' := Aside0.mk H
    clear H
    obtain ⟨z9_0, z9_1, z9_2, z9_3, z9_4, z9_5, z9_6, y9_0, y9_1, y9_2, y9_3, y9_4, y9_5, y9_6⟩ := Cz.d7 BK269
    go_wp2
    go_meet
    case rel => exact ⟨_, (false), Cz.si, H', ⟨by first | omega | exact Nat.le_refl _⟩, ⟨by (with_reducible repeat (first | refine blk_drewN ?_ _ | refine blk_drew ?_ | refine blk_alloc ?_ _)); exact BK269.out⟩, ⟨Cz.bl (w := w)⟩⟩
  ·rw [if_neg c4] at H
   have c4b0 : decide (0 ≤ a0_1) = false := decide_eq_false c4
   clear c4
   (first | rw [c4b0] | (simp only [i64_w, i32_w]; rw [c4b0]) | skip)
   have H' := Aside0.mk H
   clear H
   obtain ⟨z10_0, z10_1, z10_2, z10_3, z10_4, z10_5, z10_6, y10_0, y10_1, y10_2, y10_3, y10_4, y10_5, y10_6⟩ := Cz.d7 BK269
   go_wp2
   go_meet
   case rel => exact ⟨_, (false), Cz.si, H', ⟨by first | omega | exact Nat.le_refl _⟩, ⟨by (with_reducible repeat (first | refine blk_drewN ?_ _ | refine blk_drew ?_ | refine blk_alloc ?_ _)); exact BK269.out⟩, ⟨Cz.bl (w := w)⟩⟩
 case rest =>
  clear HC2
  try clear c2
  try clear p2
  try clear c4
  try clear c4b0
  try clear c5
  try clear c5b0
  try clear c6
  try clear c6b0
  try clear p6
  try clear z10_0 z10_1 z10_2 z10_3 z10_4 z10_5 z10_6 y10_0 y10_1 y10_2 y10_3 y10_4 y10_5 y10_6
  try clear z7_0 z7_1 z7_2 z7_3 z7_4 z7_5 z7_6 y7_0 y7_1 y7_2 y7_3 y7_4 y7_5 y7_6
  try clear z8_0 z8_1 z8_2 z8_3 z8_4 z8_5 z8_6 y8_0 y8_1 y8_2 y8_3 y8_4 y8_5 y8_6
  try clear z9_0 z9_1 z9_2 z9_3 z9_4 z9_5 z9_6 y9_0 y9_1 y9_2 y9_3 y9_4 y9_5 y9_6
  obtain ⟨kq, x3_1, rfl, HA, HJ1, BK269, HB⟩ := hcut
  cases kq with
  | zero => exact absurd HA.out (by simp [waggonerref16_Check_p.j0])
  | succ kj1 =>
   have H := HA.out
   clear HA
   simp only [waggonerref16_Check_p.j0] at H
   have HC11 := Aside0.mk H
   clear H
   go_upto_region 2 with (fail)
   go_cut [4] (fun v4 wc => ∃ (kq : Nat) (x4_10 : Bool), v4 = .bool x4_10 ∧ Aside0 (waggonerref16_Check_p.j1 kq x3_1 x4_10 a0_0 a0_1 a0_2 l0_3 a0_4 a0_5 a0_6 = some r) ∧ Aside0 (kq ≤ kj1) ∧ Aside0 (wc.heap[gb269]? = some (.cells #[.int .i64 a0_0, .int .i64 a0_1, .int .i64 a0_2, (.slice A0_3 l0_3.length c0_3), .int .i64 a0_4, .int .i64 a0_5, .int .i64 a0_6] 38 (0, 0))) ∧ Aside0 (Below w.heap.size w wc))
   case first =>
    have H := HC11.out
    clear HC11
    by_cases c12 : a0_4 = 0
    ·rw [if_pos c12] at H
     have c12b0 : (a0_4 == 0) = true := beq_iff_eq.mpr c12
     have c12b1 : (a0_4 != 0) = false := bne_eq_false_iff_eq.mpr c12
     clear c12
     (first | rw [c12b0] | (simp only [i64_w, i32_w]; rw [c12b0]) | skip)
     by_cases c13 : a0_5 = 0
     ·rw [if_pos c13] at H
      have c13b0 : (a0_5 == 0) = true := beq_iff_eq.mpr c13
      have c13b1 : (a0_5 != 0) = false := bne_eq_false_iff_eq.mpr c13
      clear c13
      have H' := Aside0.mk H
      clear H
      obtain ⟨z14_0, z14_1, z14_2, z14_3, z14_4, z14_5, z14_6, y14_0, y14_1, y14_2, y14_3, y14_4, y14_5, y14_6⟩ := Cz.d7 BK269
      go_wp2
      go_meet
      case rel => exact ⟨_, ((a0_6 == 0)), Cz.si, H', ⟨by have := HJ1.out; first | omega | exact Nat.le_refl _⟩, ⟨by (with_reducible repeat (first | refine blk_drewN ?_ _ | refine blk_drew ?_ | refine blk_alloc ?_ _)); exact BK269.out⟩, ⟨Cz.bl (w := w)⟩⟩
     ·rw [if_neg c13] at H
      have c13b0 : (a0_5 == 0) = false := beq_eq_false_iff_ne.mpr c13
      have c13b1 : (a0_5 != 0) = true := bne_iff_ne.mpr c13
      have H' := Aside0.mk H
      clear H
      obtain ⟨z15_0, z15_1, z15_2, z15_3, z15_4, z15_5, z15_6, y15_0, y15_1, y15_2, y15_3, y15_4, y15_5, y15_6⟩ := Cz.d7 BK269
      go_wp2
      go_meet
      case rel => exact ⟨_, (false), Cz.si, H', ⟨by have := HJ1.out; first | omega | exact Nat.le_refl _⟩, ⟨by (with_reducible repeat (first | refine blk_drewN ?_ _ | refine blk_drew ?_ | refine blk_alloc ?_ _)); exact BK269.out⟩, ⟨Cz.bl (w := w)⟩⟩
    ·rw [if_neg c12] at H
     have c12b0 : (a0_4 == 0) = false := beq_eq_false_iff_ne.mpr c12
     have c12b1 : (a0_4 != 0) = true := bne_iff_ne.mpr c12
     (first | rw [c12b0] | (simp only [i64_w, i32_w]; rw [c12b0]) | skip)
     have H' := Aside0.mk H
     clear H
     obtain ⟨z16_0, z16_1, z16_2, z16_3, z16_4, z16_5, z16_6, y16_0, y16_1, y16_2, y16_3, y16_4, y16_5, y16_6⟩ := Cz.d7 BK269
     go_wp2
     go_meet
     case rel => exact ⟨_, (false), Cz.si, H', ⟨by have := HJ1.out; first | omega | exact Nat.le_refl _⟩, ⟨by (with_reducible repeat (first | refine blk_drewN ?_ _ | refine blk_drew ?_ | refine blk_alloc ?_ _)); exact BK269.out⟩, ⟨Cz.bl (w := w)⟩⟩
   case rest =>
    clear HC11
    try clear c1
    try clear c2
    try clear p2 p2
    try clear c4
    try clear c4b0
    try clear c5
    try clear c5b0
    try clear c6
    try clear c6b0
    try clear p6 p6
    try clear c12
    try clear c12b0
    try clear c12b1
    try clear c13
    try clear c13b0
    try clear c13b1
    try clear z10_0 z10_1 z10_2 z10_3 z10_4 z10_5 z10_6 y10_0 y10_1 y10_2 y10_3 y10_4 y10_5 y10_6
    try clear z14_0 z14_1 z14_2 z14_3 z14_4 z14_5 z14_6 y14_0 y14_1 y14_2 y14_3 y14_4 y14_5 y14_6
    try clear z15_0 z15_1 z15_2 z15_3 z15_4 z15_5 z15_6 y15_0 y15_1 y15_2 y15_3 y15_4 y15_5 y15_6
    try clear z16_0 z16_1 z16_2 z16_3 z16_4 z16_5 z16_6 y16_0 y16_1 y16_2 y16_3 y16_4 y16_5 y16_6
    try clear z7_0 z7_1 z7_2 z7_3 z7_4 z7_5 z7_6 y7_0 y7_1 y7_2 y7_3 y7_4 y7_5 y7_6
    try clear z8_0 z8_1 z8_2 z8_3 z8_4 z8_5 z8_6 y8_0 y8_1 y8_2 y8_3 y8_4 y8_5 y8_6
    try clear z9_0 z9_1 z9_2 z9_3 z9_4 z9_5 z9_6 y9_0 y9_1 y9_2 y9_3 y9_4 y9_5 y9_6
    obtain ⟨kq, x4_10, rfl, HA, HJ10, BK269, HB⟩ := hcut
    cases kq with
    | zero => exact absurd HA.out (by simp [waggonerref16_Check_p.j1])
    | succ kj10 =>
     have H := HA.out
     clear HA
     simp only [waggonerref16_Check_p.j1] at H
     have HC17 := Aside0.mk H
     clear H
     go_upto_region 3 with (fail)
     go_cut [5] (fun v5 wc => ∃ (kq : Nat) (x5_16 : Bool), v5 = .bool x5_16 ∧ Aside0 (waggonerref16_Check_p.j2 kq x3_1 x4_10 x5_16 a0_0 a0_1 a0_2 l0_3 a0_4 a0_5 a0_6 = some r) ∧ Aside0 (kq ≤ kj10) ∧ Aside0 (wc.heap[gb269]? = some (.cells #[.int .i64 a0_0, .int .i64 a0_1, .int .i64 a0_2, (.slice A0_3 l0_3.length c0_3), .int .i64 a0_4, .int .i64 a0_5, .int .i64 a0_6] 38 (0, 0))) ∧ Aside0 (Below w.heap.size w wc))
     case first =>
      have H := HC17.out
      clear HC17
      by_cases c18 : a0_1 = 0
      ·rw [if_pos c18] at H
       have c18b0 : (a0_1 == 0) = true := beq_iff_eq.mpr c18
       have c18b1 : (a0_1 != 0) = false := bne_eq_false_iff_eq.mpr c18
       clear c18
       (first | rw [c18b0] | (simp only [i64_w, i32_w]; rw [c18b0]) | skip)
       by_cases c19 : a0_2 = 0
       ·rw [if_pos c19] at H
        have c19b0 : (a0_2 == 0) = true := beq_iff_eq.mpr c19
        have c19b1 : (a0_2 != 0) = false := bne_eq_false_iff_eq.mpr c19
        clear c19
        have H' := Aside0.mk H
        clear H
        obtain ⟨z20_0, z20_1, z20_2, z20_3, z20_4, z20_5, z20_6, y20_0, y20_1, y20_2, y20_3, y20_4, y20_5, y20_6⟩ := Cz.d7 BK269
        go_wp2
        go_meet
        case rel => exact ⟨_, (((l0_3.length : Int) == 0)), Cz.si, H', ⟨by have := HJ1.out; have := HJ10.out; first | omega | exact Nat.le_refl _⟩, ⟨by (with_reducible repeat (first | refine blk_drewN ?_ _ | refine blk_drew ?_ | refine blk_alloc ?_ _)); exact BK269.out⟩, ⟨Cz.bl (w := w)⟩⟩
       ·rw [if_neg c19] at H
        have c19b0 : (a0_2 == 0) = false := beq_eq_false_iff_ne.mpr c19
        have c19b1 : (a0_2 != 0) = true := bne_iff_ne.mpr c19
        have H' := Aside0.mk H
        clear H
        obtain ⟨z21_0, z21_1, z21_2, z21_3, z21_4, z21_5, z21_6, y21_0, y21_1, y21_2, y21_3, y21_4, y21_5, y21_6⟩ := Cz.d7 BK269
        go_wp2
        go_meet
        case rel => exact ⟨_, (false), Cz.si, H', ⟨by have := HJ1.out; have := HJ10.out; first | omega | exact Nat.le_refl _⟩, ⟨by (with_reducible repeat (first | refine blk_drewN ?_ _ | refine blk_drew ?_ | refine blk_alloc ?_ _)); exact BK269.out⟩, ⟨Cz.bl (w := w)⟩⟩
      ·rw [if_neg c18] at H
       have c18b0 : (a0_1 == 0) = false := beq_eq_false_iff_ne.mpr c18
       have c18b1 : (a0_1 != 0) = true := bne_iff_ne.mpr c18
       (first | rw [c18b0] | (simp only [i64_w, i32_w]; rw [c18b0]) | skip)
       have H' := Aside0.mk H
       clear H
       obtain ⟨z22_0, z22_1, z22_2, z22_3, z22_4, z22_5, z22_6, y22_0, y22_1, y22_2, y22_3, y22_4, y22_5, y22_6⟩ := Cz.d7 BK269
       go_wp2
       go_meet
       case rel => exact ⟨_, (false), Cz.si, H', ⟨by have := HJ1.out; have := HJ10.out; first | omega | exact Nat.le_refl _⟩, ⟨by (with_reducible repeat (first | refine blk_drewN ?_ _ | refine blk_drew ?_ | refine blk_alloc ?_ _)); exact BK269.out⟩, ⟨Cz.bl (w := w)⟩⟩
     case rest =>
      clear HC17
      try clear c1
      try clear c2
      try clear p2 p2
      try clear c4
      try clear c4b0
      try clear c5
      try clear c5b0
      try clear c6
      try clear c6b0
      try clear p6 p6
      try clear c12
      try clear c12b0
      try clear c12b1
      try clear c13
      try clear c13b0
      try clear c13b1
      try clear c18
      try clear c18b0
      try clear c18b1
      try clear c19
      try clear c19b0
      try clear c19b1
      try clear z10_0 z10_1 z10_2 z10_3 z10_4 z10_5 z10_6 y10_0 y10_1 y10_2 y10_3 y10_4 y10_5 y10_6
      try clear z14_0 z14_1 z14_2 z14_3 z14_4 z14_5 z14_6 y14_0 y14_1 y14_2 y14_3 y14_4 y14_5 y14_6
      try clear z15_0 z15_1 z15_2 z15_3 z15_4 z15_5 z15_6 y15_0 y15_1 y15_2 y15_3 y15_4 y15_5 y15_6
      try clear z16_0 z16_1 z16_2 z16_3 z16_4 z16_5 z16_6 y16_0 y16_1 y16_2 y16_3 y16_4 y16_5 y16_6
      try clear z20_0 z20_1 z20_2 z20_3 z20_4 z20_5 z20_6 y20_0 y20_1 y20_2 y20_3 y20_4 y20_5 y20_6
      try clear z21_0 z21_1 z21_2 z21_3 z21_4 z21_5 z21_6 y21_0 y21_1 y21_2 y21_3 y21_4 y21_5 y21_6
      try clear z22_0 z22_1 z22_2 z22_3 z22_4 z22_5 z22_6 y22_0 y22_1 y22_2 y22_3 y22_4 y22_5 y22_6
      try clear z7_0 z7_1 z7_2 z7_3 z7_4 z7_5 z7_6 y7_0 y7_1 y7_2 y7_3 y7_4 y7_5 y7_6
      try clear z8_0 z8_1 z8_2 z8_3 z8_4 z8_5 z8_6 y8_0 y8_1 y8_2 y8_3 y8_4 y8_5 y8_6
      try clear z9_0 z9_1 z9_2 z9_3 z9_4 z9_5 z9_6 y9_0 y9_1 y9_2 y9_3 y9_4 y9_5 y9_6
      obtain ⟨kq, x5_16, rfl, HA, HJ16, BK269, HB⟩ := hcut
      cases kq with
      | zero => exact absurd HA.out (by simp [waggonerref16_Check_p.j2])
      | succ kj16 =>
       have H := HA.out
       clear HA
       simp only [waggonerref16_Check_p.j2] at H
       replace H := Option.bind_eq_some_iff.mp H
       obtain ⟨t270, A230, H⟩ := H
       (try dsimp only at H)
       have A23 := Aside0.mk A230
       clear A230
       by_cases c24 : a0_0 = 1
       ·rw [if_pos c24] at H
        have c24b0 : (a0_0 == 1) = true := beq_iff_eq.mpr c24
        have c24b1 : (a0_0 != 1) = false := bne_eq_false_iff_eq.mpr c24
        clear c24
        by_cases c25 : x5_16 = true
        ·subst c25
         rw [if_pos rfl] at H
         by_cases c26 : a0_4 ≥ 1
         ·rw [if_pos c26] at H
          have c26b0 : decide (1 ≤ a0_4) = true := decide_eq_true c26
          clear c26
          by_cases c27 : a0_4 ≤ 64
          ·rw [if_pos c27] at H
           have c27b0 : decide (a0_4 ≤ 64) = true := decide_eq_true c27
           clear c27
           by_cases c28 : a0_5 ≥ 0
           ·rw [if_pos c28] at H
            have c28b0 : decide (0 ≤ a0_5) = true := decide_eq_true c28
            clear c28
            by_cases c29 : a0_6 > a0_5
            ·rw [if_pos c29] at H
             have c29b0 : decide (a0_5 < a0_6) = true := decide_eq_true c29
             clear c29
             obtain rfl := Option.some.inj H
             obtain ⟨z30_0, z30_1, z30_2, z30_3, z30_4, z30_5, z30_6, y30_0, y30_1, y30_2, y30_3, y30_4, y30_5, y30_6⟩ := Cz.d7 BK269
             go_wp2_with (first | ((with_reducible refine gate_callee (f := 50) rfl ?_); refine Cz.gL (N := (some 57)) Try.func50 #[.slice A0_3 l0_3.length c0_3] ?_; (with_reducible refine (waggonerref16_zeros.calls _ _ l0_3 t270 _ ?side1 ?side2 A23.out).mono ?_); (case side1 => exact Cz.cb HR0_3); (case side2 => exact HC0_3.out); rintro e w' ⟨rfl, ⟨nd, rfl⟩⟩; refine ⟨_, rfl, ?_⟩))
             go_ret
             exact ⟨Cz.er, Cz.bl (w := w)⟩
            ·rw [if_neg c29] at H
             have c29b0 : decide (a0_5 < a0_6) = false := decide_eq_false c29
             clear c29
             obtain rfl := Option.some.inj H
             obtain ⟨z31_0, z31_1, z31_2, z31_3, z31_4, z31_5, z31_6, y31_0, y31_1, y31_2, y31_3, y31_4, y31_5, y31_6⟩ := Cz.d7 BK269
             go_wp2_with (first | ((with_reducible refine gate_callee (f := 50) rfl ?_); refine Cz.gL (N := (some 57)) Try.func50 #[.slice A0_3 l0_3.length c0_3] ?_; (with_reducible refine (waggonerref16_zeros.calls _ _ l0_3 t270 _ ?side1 ?side2 A23.out).mono ?_); (case side1 => exact Cz.cb HR0_3); (case side2 => exact HC0_3.out); rintro e w' ⟨rfl, ⟨nd, rfl⟩⟩; refine ⟨_, rfl, ?_⟩))
             go_ret
             exact ⟨Cz.er, Cz.bl (w := w)⟩
           ·rw [if_neg c28] at H
            have c28b0 : decide (0 ≤ a0_5) = false := decide_eq_false c28
            clear c28
            obtain rfl := Option.some.inj H
            obtain ⟨z32_0, z32_1, z32_2, z32_3, z32_4, z32_5, z32_6, y32_0, y32_1, y32_2, y32_3, y32_4, y32_5, y32_6⟩ := Cz.d7 BK269
            go_wp2_with (first | ((with_reducible refine gate_callee (f := 50) rfl ?_); refine Cz.gL (N := (some 57)) Try.func50 #[.slice A0_3 l0_3.length c0_3] ?_; (with_reducible refine (waggonerref16_zeros.calls _ _ l0_3 t270 _ ?side1 ?side2 A23.out).mono ?_); (case side1 => exact Cz.cb HR0_3); (case side2 => exact HC0_3.out); rintro e w' ⟨rfl, ⟨nd, rfl⟩⟩; refine ⟨_, rfl, ?_⟩))
            go_ret
            exact ⟨Cz.er, Cz.bl (w := w)⟩
          ·rw [if_neg c27] at H
           have c27b0 : decide (a0_4 ≤ 64) = false := decide_eq_false c27
           clear c27
           obtain rfl := Option.some.inj H
           obtain ⟨z33_0, z33_1, z33_2, z33_3, z33_4, z33_5, z33_6, y33_0, y33_1, y33_2, y33_3, y33_4, y33_5, y33_6⟩ := Cz.d7 BK269
           go_wp2_with (first | ((with_reducible refine gate_callee (f := 50) rfl ?_); refine Cz.gL (N := (some 57)) Try.func50 #[.slice A0_3 l0_3.length c0_3] ?_; (with_reducible refine (waggonerref16_zeros.calls _ _ l0_3 t270 _ ?side1 ?side2 A23.out).mono ?_); (case side1 => exact Cz.cb HR0_3); (case side2 => exact HC0_3.out); rintro e w' ⟨rfl, ⟨nd, rfl⟩⟩; refine ⟨_, rfl, ?_⟩))
           go_ret
           exact ⟨Cz.er, Cz.bl (w := w)⟩
         ·rw [if_neg c26] at H
          have c26b0 : decide (1 ≤ a0_4) = false := decide_eq_false c26
          clear c26
          obtain rfl := Option.some.inj H
          obtain ⟨z34_0, z34_1, z34_2, z34_3, z34_4, z34_5, z34_6, y34_0, y34_1, y34_2, y34_3, y34_4, y34_5, y34_6⟩ := Cz.d7 BK269
          go_wp2_with (first | ((with_reducible refine gate_callee (f := 50) rfl ?_); refine Cz.gL (N := (some 57)) Try.func50 #[.slice A0_3 l0_3.length c0_3] ?_; (with_reducible refine (waggonerref16_zeros.calls _ _ l0_3 t270 _ ?side1 ?side2 A23.out).mono ?_); (case side1 => exact Cz.cb HR0_3); (case side2 => exact HC0_3.out); rintro e w' ⟨rfl, ⟨nd, rfl⟩⟩; refine ⟨_, rfl, ?_⟩))
          go_ret
          exact ⟨Cz.er, Cz.bl (w := w)⟩
        ·replace c25 := Bool.eq_false_iff.mpr c25
         subst c25
         rw [if_neg (show ¬ (false = true) by decide)] at H
         obtain rfl := Option.some.inj H
         obtain ⟨z35_0, z35_1, z35_2, z35_3, z35_4, z35_5, z35_6, y35_0, y35_1, y35_2, y35_3, y35_4, y35_5, y35_6⟩ := Cz.d7 BK269
         go_wp2_with (first | ((with_reducible refine gate_callee (f := 50) rfl ?_); refine Cz.gL (N := (some 57)) Try.func50 #[.slice A0_3 l0_3.length c0_3] ?_; (with_reducible refine (waggonerref16_zeros.calls _ _ l0_3 t270 _ ?side1 ?side2 A23.out).mono ?_); (case side1 => exact Cz.cb HR0_3); (case side2 => exact HC0_3.out); rintro e w' ⟨rfl, ⟨nd, rfl⟩⟩; refine ⟨_, rfl, ?_⟩))
         go_ret
         exact ⟨Cz.er, Cz.bl (w := w)⟩
       ·rw [if_neg c24] at H
        have c24b0 : (a0_0 == 1) = false := beq_eq_false_iff_ne.mpr c24
        have c24b1 : (a0_0 != 1) = true := bne_iff_ne.mpr c24
        by_cases c36 : a0_0 = 2
        ·rw [if_pos c36] at H
         have c36b0 : (a0_0 == 2) = true := beq_iff_eq.mpr c36
         have c36b1 : (a0_0 != 2) = false := bne_eq_false_iff_eq.mpr c36
         clear c36
         by_cases c37 : x3_1 = true
         ·subst c37
          rw [if_pos rfl] at H
          by_cases c38 : x4_10 = true
          ·subst c38
           rw [if_pos rfl] at H
           by_cases c39 : a0_2 ≤ 16
           ·rw [if_pos c39] at H
            have c39b0 : decide (a0_2 ≤ 16) = true := decide_eq_true c39
            clear c39
            by_cases c40 : (l0_3.length : Int) = (wrap64 (32 * a0_2))
            ·rw [if_pos c40] at H
             have c40b0 : ((l0_3.length : Int) == (wrap64 (32 * a0_2))) = true := beq_iff_eq.mpr c40
             have c40b1 : ((l0_3.length : Int) != (wrap64 (32 * a0_2))) = false := bne_eq_false_iff_eq.mpr c40
             clear c40
             obtain rfl := Option.some.inj H
             obtain ⟨z41_0, z41_1, z41_2, z41_3, z41_4, z41_5, z41_6, y41_0, y41_1, y41_2, y41_3, y41_4, y41_5, y41_6⟩ := Cz.d7 BK269
             go_wp2_with (first | ((with_reducible refine gate_callee (f := 50) rfl ?_); refine Cz.gL (N := (some 57)) Try.func50 #[.slice A0_3 l0_3.length c0_3] ?_; (with_reducible refine (waggonerref16_zeros.calls _ _ l0_3 t270 _ ?side1 ?side2 A23.out).mono ?_); (case side1 => exact Cz.cb HR0_3); (case side2 => exact HC0_3.out); rintro e w' ⟨rfl, ⟨nd, rfl⟩⟩; refine ⟨_, rfl, ?_⟩))
             go_ret
             exact ⟨Cz.er, Cz.bl (w := w)⟩
            ·rw [if_neg c40] at H
             have c40b0 : ((l0_3.length : Int) == (wrap64 (32 * a0_2))) = false := beq_eq_false_iff_ne.mpr c40
             have c40b1 : ((l0_3.length : Int) != (wrap64 (32 * a0_2))) = true := bne_iff_ne.mpr c40
             obtain rfl := Option.some.inj H
             obtain ⟨z42_0, z42_1, z42_2, z42_3, z42_4, z42_5, z42_6, y42_0, y42_1, y42_2, y42_3, y42_4, y42_5, y42_6⟩ := Cz.d7 BK269
             go_wp2_with (first | ((with_reducible refine gate_callee (f := 50) rfl ?_); refine Cz.gL (N := (some 57)) Try.func50 #[.slice A0_3 l0_3.length c0_3] ?_; (with_reducible refine (waggonerref16_zeros.calls _ _ l0_3 t270 _ ?side1 ?side2 A23.out).mono ?_); (case side1 => exact Cz.cb HR0_3); (case side2 => exact HC0_3.out); rintro e w' ⟨rfl, ⟨nd, rfl⟩⟩; refine ⟨_, rfl, ?_⟩))
             go_ret
             exact ⟨Cz.er, Cz.bl (w := w)⟩
           ·rw [if_neg c39] at H
            have c39b0 : decide (a0_2 ≤ 16) = false := decide_eq_false c39
            clear c39
            obtain rfl := Option.some.inj H
            obtain ⟨z43_0, z43_1, z43_2, z43_3, z43_4, z43_5, z43_6, y43_0, y43_1, y43_2, y43_3, y43_4, y43_5, y43_6⟩ := Cz.d7 BK269
            go_wp2_with (first | ((with_reducible refine gate_callee (f := 50) rfl ?_); refine Cz.gL (N := (some 57)) Try.func50 #[.slice A0_3 l0_3.length c0_3] ?_; (with_reducible refine (waggonerref16_zeros.calls _ _ l0_3 t270 _ ?side1 ?side2 A23.out).mono ?_); (case side1 => exact Cz.cb HR0_3); (case side2 => exact HC0_3.out); rintro e w' ⟨rfl, ⟨nd, rfl⟩⟩; refine ⟨_, rfl, ?_⟩))
            go_ret
            exact ⟨Cz.er, Cz.bl (w := w)⟩
          ·replace c38 := Bool.eq_false_iff.mpr c38
           subst c38
           rw [if_neg (show ¬ (false = true) by decide)] at H
           obtain rfl := Option.some.inj H
           obtain ⟨z44_0, z44_1, z44_2, z44_3, z44_4, z44_5, z44_6, y44_0, y44_1, y44_2, y44_3, y44_4, y44_5, y44_6⟩ := Cz.d7 BK269
           go_wp2_with (first | ((with_reducible refine gate_callee (f := 50) rfl ?_); refine Cz.gL (N := (some 57)) Try.func50 #[.slice A0_3 l0_3.length c0_3] ?_; (with_reducible refine (waggonerref16_zeros.calls _ _ l0_3 t270 _ ?side1 ?side2 A23.out).mono ?_); (case side1 => exact Cz.cb HR0_3); (case side2 => exact HC0_3.out); rintro e w' ⟨rfl, ⟨nd, rfl⟩⟩; refine ⟨_, rfl, ?_⟩))
           go_ret
           exact ⟨Cz.er, Cz.bl (w := w)⟩
         ·replace c37 := Bool.eq_false_iff.mpr c37
          subst c37
          rw [if_neg (show ¬ (false = true) by decide)] at H
          obtain rfl := Option.some.inj H
          obtain ⟨z45_0, z45_1, z45_2, z45_3, z45_4, z45_5, z45_6, y45_0, y45_1, y45_2, y45_3, y45_4, y45_5, y45_6⟩ := Cz.d7 BK269
          go_wp2_with (first | ((with_reducible refine gate_callee (f := 50) rfl ?_); refine Cz.gL (N := (some 57)) Try.func50 #[.slice A0_3 l0_3.length c0_3] ?_; (with_reducible refine (waggonerref16_zeros.calls _ _ l0_3 t270 _ ?side1 ?side2 A23.out).mono ?_); (case side1 => exact Cz.cb HR0_3); (case side2 => exact HC0_3.out); rintro e w' ⟨rfl, ⟨nd, rfl⟩⟩; refine ⟨_, rfl, ?_⟩))
          go_ret
          exact ⟨Cz.er, Cz.bl (w := w)⟩
        ·rw [if_neg c36] at H
         have c36b0 : (a0_0 == 2) = false := beq_eq_false_iff_ne.mpr c36
         have c36b1 : (a0_0 != 2) = true := bne_iff_ne.mpr c36
         have HC46 := Aside0.mk H
         clear H
         obtain ⟨z47_0, z47_1, z47_2, z47_3, z47_4, z47_5, z47_6, y47_0, y47_1, y47_2, y47_3, y47_4, y47_5, y47_6⟩ := Cz.d7 BK269
         go_upto_if 114 with (first | ((with_reducible refine gate_callee (f := 50) rfl ?_); refine Cz.gL (N := (some 57)) Try.func50 #[.slice A0_3 l0_3.length c0_3] ?_; (with_reducible refine (waggonerref16_zeros.calls _ _ l0_3 t270 _ ?side1 ?side2 A23.out).mono ?_); (case side1 => exact Cz.cb HR0_3); (case side2 => exact HC0_3.out); rintro e w' ⟨rfl, ⟨nd, rfl⟩⟩; refine ⟨_, rfl, ?_⟩))
         (try simp only [Act.put, Kx.sb, Kx.sz, Kx.ss])
         go_cut [114] (fun v114 wc => ∃ (kq : Nat) (x114_45 : Bool), v114 = .bool x114_45 ∧ Aside0 (waggonerref16_Check_p.j3 kq x3_1 x4_10 x5_16 a0_0 x114_45 a0_0 a0_1 a0_2 l0_3 a0_4 a0_5 a0_6 = some r) ∧ Aside0 (kq ≤ kj16) ∧ Aside0 (wc.heap[gb269]? = some (.cells #[.int .i64 a0_0, .int .i64 a0_1, .int .i64 a0_2, (.slice A0_3 l0_3.length c0_3), .int .i64 a0_4, .int .i64 a0_5, .int .i64 a0_6] 38 (0, 0))) ∧ Aside0 (Below w.heap.size w wc))
         case first =>
          have H := HC46.out
          clear HC46
          by_cases c48 : a0_0 = 3
          ·rw [if_pos c48] at H
           have c48b0 : (a0_0 == 3) = true := beq_iff_eq.mpr c48
           have c48b1 : (a0_0 != 3) = false := bne_eq_false_iff_eq.mpr c48
           clear c48
           (first | rw [c48b0] | (simp only [i64_w, i32_w]; rw [c48b0]) | skip)
           have H' := Aside0.mk H
           clear H
           go_wp2
           go_meet
           case rel => exact ⟨_, ((a0_0 == 3)), Cz.si, H', ⟨by have := HJ1.out; have := HJ10.out; have := HJ16.out; first | omega | exact Nat.le_refl _⟩, ⟨by (with_reducible repeat (first | refine blk_drewN ?_ _ | refine blk_drew ?_ | refine blk_alloc ?_ _)); exact BK269.out⟩, ⟨Cz.bl (w := w)⟩⟩
          ·rw [if_neg c48] at H
           have c48b0 : (a0_0 == 3) = false := beq_eq_false_iff_ne.mpr c48
           have c48b1 : (a0_0 != 3) = true := bne_iff_ne.mpr c48
           (first | rw [c48b0] | (simp only [i64_w, i32_w]; rw [c48b0]) | skip)
           have H' := Aside0.mk H
           clear H
           go_wp2
           go_meet
           case rel => exact ⟨_, ((a0_0 == 4)), Cz.si, H', ⟨by have := HJ1.out; have := HJ10.out; have := HJ16.out; first | omega | exact Nat.le_refl _⟩, ⟨by (with_reducible repeat (first | refine blk_drewN ?_ _ | refine blk_drew ?_ | refine blk_alloc ?_ _)); exact BK269.out⟩, ⟨Cz.bl (w := w)⟩⟩
         case rest =>
          clear HC46
          try clear c1
          try clear c2
          try clear p2 p2
          try clear c3
          try clear c4
          try clear c4b0
          try clear c5
          try clear c5b0
          try clear c6
          try clear c6b0
          try clear p6 p6
          try clear c12
          try clear c12b0
          try clear c12b1
          try clear c13
          try clear c13b0
          try clear c13b1
          try clear c18
          try clear c18b0
          try clear c18b1
          try clear c19
          try clear c19b0
          try clear c19b1
          try clear c24
          try clear c24b0
          try clear c24b1
          try clear c25
          try clear c26
          try clear c26b0
          try clear c27
          try clear c27b0
          try clear c28
          try clear c28b0
          try clear c29
          try clear c29b0
          try clear c36
          try clear c36b0
          try clear c36b1
          try clear c37
          try clear c38
          try clear c39
          try clear c39b0
          try clear c40
          try clear c40b0
          try clear c40b1
          try clear c48
          try clear c48b0
          try clear c48b1
          try clear z10_0 z10_1 z10_2 z10_3 z10_4 z10_5 z10_6 y10_0 y10_1 y10_2 y10_3 y10_4 y10_5 y10_6
          try clear z14_0 z14_1 z14_2 z14_3 z14_4 z14_5 z14_6 y14_0 y14_1 y14_2 y14_3 y14_4 y14_5 y14_6
          try clear z15_0 z15_1 z15_2 z15_3 z15_4 z15_5 z15_6 y15_0 y15_1 y15_2 y15_3 y15_4 y15_5 y15_6
          try clear z16_0 z16_1 z16_2 z16_3 z16_4 z16_5 z16_6 y16_0 y16_1 y16_2 y16_3 y16_4 y16_5 y16_6
          try clear z20_0 z20_1 z20_2 z20_3 z20_4 z20_5 z20_6 y20_0 y20_1 y20_2 y20_3 y20_4 y20_5 y20_6
          try clear z21_0 z21_1 z21_2 z21_3 z21_4 z21_5 z21_6 y21_0 y21_1 y21_2 y21_3 y21_4 y21_5 y21_6
          try clear z22_0 z22_1 z22_2 z22_3 z22_4 z22_5 z22_6 y22_0 y22_1 y22_2 y22_3 y22_4 y22_5 y22_6
          try clear z30_0 z30_1 z30_2 z30_3 z30_4 z30_5 z30_6 y30_0 y30_1 y30_2 y30_3 y30_4 y30_5 y30_6
          try clear z31_0 z31_1 z31_2 z31_3 z31_4 z31_5 z31_6 y31_0 y31_1 y31_2 y31_3 y31_4 y31_5 y31_6
          try clear z32_0 z32_1 z32_2 z32_3 z32_4 z32_5 z32_6 y32_0 y32_1 y32_2 y32_3 y32_4 y32_5 y32_6
          try clear z33_0 z33_1 z33_2 z33_3 z33_4 z33_5 z33_6 y33_0 y33_1 y33_2 y33_3 y33_4 y33_5 y33_6
          try clear z34_0 z34_1 z34_2 z34_3 z34_4 z34_5 z34_6 y34_0 y34_1 y34_2 y34_3 y34_4 y34_5 y34_6
          try clear z35_0 z35_1 z35_2 z35_3 z35_4 z35_5 z35_6 y35_0 y35_1 y35_2 y35_3 y35_4 y35_5 y35_6
          try clear z41_0 z41_1 z41_2 z41_3 z41_4 z41_5 z41_6 y41_0 y41_1 y41_2 y41_3 y41_4 y41_5 y41_6
          try clear z42_0 z42_1 z42_2 z42_3 z42_4 z42_5 z42_6 y42_0 y42_1 y42_2 y42_3 y42_4 y42_5 y42_6
          try clear z43_0 z43_1 z43_2 z43_3 z43_4 z43_5 z43_6 y43_0 y43_1 y43_2 y43_3 y43_4 y43_5 y43_6
          try clear z44_0 z44_1 z44_2 z44_3 z44_4 z44_5 z44_6 y44_0 y44_1 y44_2 y44_3 y44_4 y44_5 y44_6
          try clear z45_0 z45_1 z45_2 z45_3 z45_4 z45_5 z45_6 y45_0 y45_1 y45_2 y45_3 y45_4 y45_5 y45_6
          try clear z47_0 z47_1 z47_2 z47_3 z47_4 z47_5 z47_6 y47_0 y47_1 y47_2 y47_3 y47_4 y47_5 y47_6
          try clear z7_0 z7_1 z7_2 z7_3 z7_4 z7_5 z7_6 y7_0 y7_1 y7_2 y7_3 y7_4 y7_5 y7_6
          try clear z8_0 z8_1 z8_2 z8_3 z8_4 z8_5 z8_6 y8_0 y8_1 y8_2 y8_3 y8_4 y8_5 y8_6
          try clear z9_0 z9_1 z9_2 z9_3 z9_4 z9_5 z9_6 y9_0 y9_1 y9_2 y9_3 y9_4 y9_5 y9_6
          obtain ⟨kq, x114_45, rfl, HA, HJ45, BK269, HB⟩ := hcut
          cases kq with
          | zero => exact absurd HA.out (by simp [waggonerref16_Check_p.j3])
          | succ kj45 =>
           have H := HA.out
           clear HA
           simp only [waggonerref16_Check_p.j3] at H
           by_cases c49 : x114_45 = true
           ·subst c49
            rw [if_pos rfl] at H
            by_cases c50 : x3_1 = true
            ·subst c50
             rw [if_pos rfl] at H
             by_cases c51 : x4_10 = true
             ·subst c51
              rw [if_pos rfl] at H
              obtain rfl := Option.some.inj H
              obtain ⟨z52_0, z52_1, z52_2, z52_3, z52_4, z52_5, z52_6, y52_0, y52_1, y52_2, y52_3, y52_4, y52_5, y52_6⟩ := Cz.d7 BK269
              go_wp2
              go_ret
              exact ⟨Cz.er, Cz.bl (w := w)⟩
             ·replace c51 := Bool.eq_false_iff.mpr c51
              subst c51
              rw [if_neg (show ¬ (false = true) by decide)] at H
              obtain rfl := Option.some.inj H
              go_wp2
              go_ret
              exact ⟨Cz.er, Cz.bl (w := w)⟩
            ·replace c50 := Bool.eq_false_iff.mpr c50
             subst c50
             rw [if_neg (show ¬ (false = true) by decide)] at H
             obtain rfl := Option.some.inj H
             go_wp2
             go_ret
             exact ⟨Cz.er, Cz.bl (w := w)⟩
           ·replace c49 := Bool.eq_false_iff.mpr c49
            subst c49
            rw [if_neg (show ¬ (false = true) by decide)] at H
            by_cases c53 : a0_0 = 5
            ·rw [if_pos c53] at H
             have c53b0 : (a0_0 == 5) = true := beq_iff_eq.mpr c53
             have c53b1 : (a0_0 != 5) = false := bne_eq_false_iff_eq.mpr c53
             clear c53
             by_cases c54 : x5_16 = true
             ·subst c54
              rw [if_pos rfl] at H
              by_cases c55 : a0_4 ≥ 1
              ·rw [if_pos c55] at H
               have c55b0 : decide (1 ≤ a0_4) = true := decide_eq_true c55
               clear c55
               by_cases c56 : a0_4 ≤ 65535
               ·rw [if_pos c56] at H
                have c56b0 : decide (a0_4 ≤ 65535) = true := decide_eq_true c56
                clear c56
                by_cases c57 : a0_5 ≥ 0
                ·rw [if_pos c57] at H
                 have c57b0 : decide (0 ≤ a0_5) = true := decide_eq_true c57
                 clear c57
                 by_cases c58 : a0_5 < 4294967296
                 ·rw [if_pos c58] at H
                  have c58b0 : decide (a0_5 < 4294967296) = true := decide_eq_true c58
                  clear c58
                  obtain rfl := Option.some.inj H
                  obtain ⟨z59_0, z59_1, z59_2, z59_3, z59_4, z59_5, z59_6, y59_0, y59_1, y59_2, y59_3, y59_4, y59_5, y59_6⟩ := Cz.d7 BK269
                  go_wp2
                  go_ret
                  exact ⟨Cz.er, Cz.bl (w := w)⟩
                 ·rw [if_neg c58] at H
                  have c58b0 : decide (a0_5 < 4294967296) = false := decide_eq_false c58
                  clear c58
                  obtain rfl := Option.some.inj H
                  obtain ⟨z60_0, z60_1, z60_2, z60_3, z60_4, z60_5, z60_6, y60_0, y60_1, y60_2, y60_3, y60_4, y60_5, y60_6⟩ := Cz.d7 BK269
                  go_wp2
                  go_ret
                  exact ⟨Cz.er, Cz.bl (w := w)⟩
                ·rw [if_neg c57] at H
                 have c57b0 : decide (0 ≤ a0_5) = false := decide_eq_false c57
                 clear c57
                 obtain rfl := Option.some.inj H
                 obtain ⟨z61_0, z61_1, z61_2, z61_3, z61_4, z61_5, z61_6, y61_0, y61_1, y61_2, y61_3, y61_4, y61_5, y61_6⟩ := Cz.d7 BK269
                 go_wp2
                 go_ret
                 exact ⟨Cz.er, Cz.bl (w := w)⟩
               ·rw [if_neg c56] at H
                have c56b0 : decide (a0_4 ≤ 65535) = false := decide_eq_false c56
                clear c56
                obtain rfl := Option.some.inj H
                obtain ⟨z62_0, z62_1, z62_2, z62_3, z62_4, z62_5, z62_6, y62_0, y62_1, y62_2, y62_3, y62_4, y62_5, y62_6⟩ := Cz.d7 BK269
                go_wp2
                go_ret
                exact ⟨Cz.er, Cz.bl (w := w)⟩
              ·rw [if_neg c55] at H
               have c55b0 : decide (1 ≤ a0_4) = false := decide_eq_false c55
               clear c55
               obtain rfl := Option.some.inj H
               obtain ⟨z63_0, z63_1, z63_2, z63_3, z63_4, z63_5, z63_6, y63_0, y63_1, y63_2, y63_3, y63_4, y63_5, y63_6⟩ := Cz.d7 BK269
               go_wp2
               go_ret
               exact ⟨Cz.er, Cz.bl (w := w)⟩
             ·replace c54 := Bool.eq_false_iff.mpr c54
              subst c54
              rw [if_neg (show ¬ (false = true) by decide)] at H
              obtain rfl := Option.some.inj H
              go_wp2
              go_ret
              exact ⟨Cz.er, Cz.bl (w := w)⟩
            ·rw [if_neg c53] at H
             have c53b0 : (a0_0 == 5) = false := beq_eq_false_iff_ne.mpr c53
             have c53b1 : (a0_0 != 5) = true := bne_iff_ne.mpr c53
             obtain rfl := Option.some.inj H
             go_wp2
             go_ret
             exact ⟨Cz.er, Cz.bl (w := w)⟩
end Go.Proofs.Ytohkmmbmfhficaa.PT
