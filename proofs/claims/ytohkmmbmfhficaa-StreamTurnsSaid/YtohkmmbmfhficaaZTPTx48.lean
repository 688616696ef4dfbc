/- Words and walks that this claim names, of those that the kit's print and programs of this workplace have printed. -/
import Derived.Test.YtohkmmbmfhficaaZTCz
import Derived.Test.YtohkmmbmfhficaaZTPTx5
import Derived.Test.YtohkmmbmfhficaaZTPTx45
import Derived.Test.YtohkmmbmfhficaaZTPTx47
namespace Go.Proofs.Ytohkmmbmfhficaa.PT
open Go.Proofs.Ytohkmmbmfhficaa Go.RowKit Go.Proofs.YtohkmmbmfhficaaW.PrintWords Go.Proofs.YtohkmmbmfhficaaW.PrintLast Go.Proofs.YtohkmmbmfhficaaW.PrintMore
attribute [local go_sem] max2_int min2_int max_two min_two max_three min_three max_four min_four
set_option linter.unusedVariables false
set_option linter.unusedSimpArgs false
theorem stream_zeros (A : Option Addr) (c : Nat) (d : List Int) (r : Bool) (w : World) (hr : Kd.C (Kd.int .u8) w A d.length d) (h32 : 32 ≤ d.length) (hc : d.length ≤ c) (h : Pl.zeroB (d.take 32) = r) : Calls Try.prog 57 #[.slice A 32 c] w fun e w' => e = .returned (.bool r) ∧ Drawn0 w w' := by
 have ht : (d.take 32).length = 32 := by rw [List.length_take]; omega
 have h1 := Kd.C_take (m := 32) hr h32
 have := zeros_Is.calls A c (d.take 32) r w h1 (by omega) (by rw [zeros_Is.tells (by omega), h])
 rwa [ht] at this
mutual
def stream_Check_p.j0 : Nat → Bool → Int → Int → Int → List (S36) → Option (Bool)
 | 0, _, _, _, _, _ => none
 | k + 1, x42, x206000, x206001, x206002, x206003 => if x42 = true then (some false) else (stream_Check_p.l0 k 0 x206003 (x206003.length : Int) 0 x206000 x206001 x206002 x206003)
def stream_Check_p.l0 : Nat → Int → List (S36) → Int → Int → Int → Int → Int → List (S36) → Option (Bool)
 | 0, _, _, _, _, _, _, _, _ => none
 | k + 1, x3, x44, x45, x46, x206000, x206001, x206002, x206003 => if x46 < x45 then (if 0 ≤ x46 then (if x46 < (x44.length : Int) then ((extent_Check.f ((rd_T36 x44 x46).f0) ((rd_T36 x44 x46).f1) ((rd_T36 x44 x46).f2) ((rd_T36 x44 x46).f3) ((rd_T36 x44 x46).f4)).bind fun t208 => (if t208 = true then (if ((rd_T36 x44 x46).f3) = 0 then (if ((rd_T36 x44 x46).f0) < x3 then (stream_Check_p.j2 k x44 x45 x46 true x206000 x206001 x206002 x206003 ((rd_T36 x44 x46).f0) ((rd_T36 x44 x46).f1) ((rd_T36 x44 x46).f2) ((rd_T36 x44 x46).f3) ((rd_T36 x44 x46).f4)) else (if x46 > 0 then (if 0 ≤ (wrap64 (x46 - 1)) then (if (wrap64 (x46 - 1)) < (x206003.length : Int) then ((extent_Joins.f ((rd_T36 x206003 (wrap64 (x46 - 1))).f0) ((rd_T36 x206003 (wrap64 (x46 - 1))).f1) ((rd_T36 x206003 (wrap64 (x46 - 1))).f2) ((rd_T36 x206003 (wrap64 (x46 - 1))).f3) ((rd_T36 x206003 (wrap64 (x46 - 1))).f4) ((rd_T36 x44 x46).f0) ((rd_T36 x44 x46).f1) ((rd_T36 x44 x46).f2) ((rd_T36 x44 x46).f3) ((rd_T36 x44 x46).f4)).bind fun t210 => (stream_Check_p.j2 k x44 x45 x46 t210 x206000 x206001 x206002 x206003 ((rd_T36 x44 x46).f0) ((rd_T36 x44 x46).f1) ((rd_T36 x44 x46).f2) ((rd_T36 x44 x46).f3) ((rd_T36 x44 x46).f4))) else (none)) else (none)) else (stream_Check_p.j2 k x44 x45 x46 false x206000 x206001 x206002 x206003 ((rd_T36 x44 x46).f0) ((rd_T36 x44 x46).f1) ((rd_T36 x44 x46).f2) ((rd_T36 x44 x46).f3) ((rd_T36 x44 x46).f4)))) else (stream_Check_p.j2 k x44 x45 x46 true x206000 x206001 x206002 x206003 ((rd_T36 x44 x46).f0) ((rd_T36 x44 x46).f1) ((rd_T36 x44 x46).f2) ((rd_T36 x44 x46).f3) ((rd_T36 x44 x46).f4))) else (stream_Check_p.j2 k x44 x45 x46 true x206000 x206001 x206002 x206003 ((rd_T36 x44 x46).f0) ((rd_T36 x44 x46).f1) ((rd_T36 x44 x46).f2) ((rd_T36 x44 x46).f3) ((rd_T36 x44 x46).f4)))) else (none)) else (none)) else (some (decide (x3 ≤ x206000)))
def stream_Check_p.j2 : Nat → List (S36) → Int → Int → Bool → Int → Int → Int → List (S36) → Int → Int → Int → Int → List Int → Option (Bool)
 | 0, _, _, _, _, _, _, _, _, _, _, _, _, _ => none
 | k + 1, x44, x45, x46, x78, x206000, x206001, x206002, x206003, x208000, x208001, x208002, x208003, x208004 => if x78 = true then (some false) else ((stream_Zeros.f x208004).bind fun t211 => (if t211 = true then (some false) else (stream_Check_p.l0 k (wrap64 (x208000 + x208001)) x44 x45 (wrap64 (x46 + 1)) x206000 x206001 x206002 x206003)))
end
def stream_Check_p.f (k : Nat) (a0_0 : Int) (a0_1 : Int) (a0_2 : Int) (l0_3 : List (S36)) : Option (Bool) := if a0_0 < 1 then (stream_Check_p.j0 k true a0_0 a0_1 a0_2 l0_3) else (if a0_0 > 64 then (stream_Check_p.j0 k true a0_0 a0_1 a0_2 l0_3) else (if a0_2 < 1 then (stream_Check_p.j0 k true a0_0 a0_1 a0_2 l0_3) else (if a0_2 > 2147483647 then (stream_Check_p.j0 k true a0_0 a0_1 a0_2 l0_3) else (if a0_1 < 0 then (stream_Check_p.j0 k true a0_0 a0_1 a0_2 l0_3) else (if a0_1 ≥ a0_2 then (stream_Check_p.j0 k true a0_0 a0_1 a0_2 l0_3) else (stream_Check_p.j0 k (decide ((l0_3.length : Int) > 64)) a0_0 a0_1 a0_2 l0_3))))))
def stream_Check_p.T7 : Bool × List (List Nat × List Nat) := (true, [([], []), ([0], [0]), ([1], [1]), ([2, 1], [2]), ([3], [3]), ([4, 3], [3, 4]), ([5, 3], [3, 5]), ([3, 6], [3, 6]), ([7, 3], [7]), ([8], [8]), ([9, 8], [8, 9]), ([8], [8]), ([10, 11, 8], [8, 10, 11]), ([8, 12], [8, 12]), ([13, 8], [13]), ([14], [14]), ([15, 14], [14, 15]), ([16, 14, 14], [14, 16]), ([17], [17]), ([18, 17], [17, 18]), ([17], [17]), ([20, 17], [17, 20]), ([19, 21, 17], [17, 19, 21]), ([22, 17], [17, 22]), ([17], [17]), ([23, 24, 17, 17], [17, 23, 24]), ([17, 25, 14], [14, 17, 25]), ([14, 26], [14, 26])])
def stream_Check_p.B7 : List Nat := [0, 1, 3, 7, 15, 31, 63, 127, 255, 511, 1023, 511, 4095, 8191, 16383, 32767, 65535, 131071, 262143, 524287, 262143, 1310719, 4194303, 8388607, 262143, 33554431, 67108863, 134217727]
theorem stream_Check_p.tab7 : rtab .any (opsOf Try.f31 7) = stream_Check_p.T7 := by kernel_rfl
theorem stream_Check_p.bits7 : waitsOk stream_Check_p.T7.2 stream_Check_p.B7 = true := by kernel_rfl
set_option maxHeartbeats 8000000 in
set_option maxRecDepth 100000 in
theorem stream_Check_p.calls (k : Nat) (a0_0 : Int) (a0_1 : Int) (a0_2 : Int) (A0_3 : Option Addr) (c0_3 : Nat) (l0_3 : List (S36)) (r : Bool) (w : World) (hr0_3 : Kd.C k36 w A0_3 l0_3.length l0_3) (hc0_3 : l0_3.length ≤ c0_3) (h : stream_Check_p.f k a0_0 a0_1 a0_2 l0_3 = some r) :
  Calls Try.prog 31 #[.agg #[.int .i64 a0_0, .int .i64 a0_1, .int .i64 a0_2, .slice A0_3 l0_3.length c0_3]] w fun e w' => e = .returned (.bool r) ∧ Below w.heap.size w w' := by
 have hu0 := Try.underlying24
 have hu1 := Try.underlying36
 have HR0_3 := Aside0.mk hr0_3
 have HC0_3 := Aside0.mk hc0_3
 clear hr0_3 hc0_3
 have HB := Aside0.mk (Below.refl w.heap.size w)
 have H : (if a0_0 < 1 then (stream_Check_p.j0 k true a0_0 a0_1 a0_2 l0_3) else (if a0_0 > 64 then (stream_Check_p.j0 k true a0_0 a0_1 a0_2 l0_3) else (if a0_2 < 1 then (stream_Check_p.j0 k true a0_0 a0_1 a0_2 l0_3) else (if a0_2 > 2147483647 then (stream_Check_p.j0 k true a0_0 a0_1 a0_2 l0_3) else (if a0_1 < 0 then (stream_Check_p.j0 k true a0_0 a0_1 a0_2 l0_3) else (if a0_1 ≥ a0_2 then (stream_Check_p.j0 k true a0_0 a0_1 a0_2 l0_3) else (stream_Check_p.j0 k (decide ((l0_3.length : Int) > 64)) a0_0 a0_1 a0_2 l0_3))))))) = some r := h
 clear h
 have HC1 := Aside0.mk H
 clear H
 go_enter Try.func31, Try.ntmps31
 go_upto_region 1 with (first | ((with_reducible refine gate_dst (N := 1) rfl ?_); (try (refine gate_guard (by rfl) ?_; dsimp only)); refine Cz.bx (N := 1) #[.int .i64 a0_0, .int .i64 a0_1, .int .i64 a0_2, .slice A0_3 l0_3.length c0_3] 24 ?_; intro gb0 hg w3 hbox hb; have BK0 := Aside0.mk (hbox); have GW0 := Aside0.mk ((Cz.gs hg : w.heap.size ≤ gb0)); have GE0 := GW0; replace HB := Cz.bs (w := w) hb; clear hb hbox hg))
 (try simp only [Act.put, Kx.sb, Kx.sz, Kx.ss])
 go_cut [42] (fun v42 wc => ∃ (kq : Nat) (x0_1 : Bool), v42 = .bool x0_1 ∧ Aside0 (stream_Check_p.j0 kq x0_1 a0_0 a0_1 a0_2 l0_3 = some r) ∧ Aside0 (kq ≤ k) ∧ Aside0 (wc.heap[gb0]? = some (.cells #[.int .i64 a0_0, .int .i64 a0_1, .int .i64 a0_2, (.slice A0_3 l0_3.length c0_3)] 24 (0, 0))) ∧ Aside0 (Below w.heap.size w wc))
 case first =>
  have H := HC1.out
  clear HC1
  by_cases c4 : a0_0 < 1
  rotate_left
  focus
   rw [if_neg c4] at H
   have c4b0 : decide (a0_0 < 1) = false := decide_eq_false c4
   clear c4
   (first | rw [c4b0] | (simp only [i64_w, i32_w]; rw [c4b0]) | skip)
   by_cases c6 : a0_0 > 64
   rotate_left
   focus
    rw [if_neg c6] at H
    have c6b0 : decide (64 < a0_0) = false := decide_eq_false c6
    clear c6
    by_cases c8 : a0_2 < 1
    rotate_left
    focus
     rw [if_neg c8] at H
     have c8b0 : decide (a0_2 < 1) = false := decide_eq_false c8
     clear c8
     by_cases c10 : a0_2 > 2147483647
    rotate_left 2
   rotate_left 3
  rotate_left 4
  focus
   rw [if_pos c4] at H
   have c4b0 : decide (a0_0 < 1) = true := decide_eq_true c4
   clear c4
   (first | rw [c4b0] | (simp only [i64_w, i32_w]; rw [c4b0]) | skip)
  rotate_left
  focus
   rw [if_pos c6] at H
   have c6b0 : decide (64 < a0_0) = true := decide_eq_true c6
   clear c6
  rotate_left
  focus
   rw [if_pos c8] at H
   have c8b0 : decide (a0_2 < 1) = true := decide_eq_true c8
   clear c8
  rotate_left
  focus
   rw [if_pos c10] at H
   have c10b0 : decide (2147483647 < a0_2) = true := decide_eq_true c10
   clear c10
  rotate_left
  focus
   rw [if_neg c10] at H
   have c10b0 : decide (2147483647 < a0_2) = false := decide_eq_false c10
   clear c10
   by_cases c12 : a0_1 < 0
   rotate_left
   ·rw [if_neg c12] at H
    have c12b0 : decide (a0_1 < 0) = false := decide_eq_false c12
    clear c12
    by_cases c14 : a0_1 ≥ a0_2
    focus
     rw [if_pos c14] at H
     have c14b0 : decide (a0_2 ≤ a0_1) = true := decide_eq_true c14
    rotate_left
    focus
     rw [if_neg c14] at H
     have c14b0 : decide (a0_2 ≤ a0_1) = false := decide_eq_false c14
    rotate_left
    all_goals
     clear c14
     have H' := Aside0.mk H
     clear H
     obtain ⟨z0_0, z0_1, z0_2, z0_3, y0_0, y0_1, y0_2, y0_3⟩ := Cz.d4 BK0
     go_wp2
    ·go_meet
     case rel => exact ⟨_, (true), Cz.si, H', ⟨by first | omega | exact Nat.le_refl _⟩, ⟨by (with_reducible repeat (first | refine blk_drewN ?_ _ | refine blk_drew ?_ | refine blk_alloc ?_ _)); exact BK0.out⟩, ⟨Cz.bl (w := w)⟩⟩
    ·go_meet
     case rel => exact ⟨_, (decide ((l0_3.length : Int) > 64)), Cz.si, H', ⟨by first | omega | exact Nat.le_refl _⟩, ⟨by (with_reducible repeat (first | refine blk_drewN ?_ _ | refine blk_drew ?_ | refine blk_alloc ?_ _)); exact BK0.out⟩, ⟨Cz.bl (w := w)⟩⟩
   rw [if_pos c12] at H
   have c12b0 : decide (a0_1 < 0) = true := decide_eq_true c12
   clear c12
  rotate_left
  all_goals
   have H' := Aside0.mk H
   clear H
   obtain ⟨z0_0, z0_1, z0_2, z0_3, y0_0, y0_1, y0_2, y0_3⟩ := Cz.d4 BK0
   go_wp2
   go_meet
   case rel => exact ⟨_, (true), Cz.si, H', ⟨by first | omega | exact Nat.le_refl _⟩, ⟨by (with_reducible repeat (first | refine blk_drewN ?_ _ | refine blk_drew ?_ | refine blk_alloc ?_ _)); exact BK0.out⟩, ⟨Cz.bl (w := w)⟩⟩
 case rest =>
  clear HC1
  try clear c1
  try clear p2
  try clear c3
  try clear c4
  try clear c4b0
  try clear c6
  try clear c6b0
  try clear c8
  try clear c8b0
  try clear c10
  try clear c10b0
  try clear c12
  try clear c12b0
  try clear c14
  try clear c14b0
  try clear z0_0 z0_1 z0_2 z0_3 y0_0 y0_1 y0_2 y0_3
  try clear z3_0 z3_1 z3_2 z3_3 y1_0 y1_1 y1_2 y1_3
  try clear z4_0 z4_1 z4_2 z4_3 y2_0 y2_1 y2_2 y2_3
  try clear z5_0 z5_1 z5_2 z5_3 y3_0 y3_1 y3_2 y3_3
  try clear z6_0 z6_1 z6_2 z6_3 y4_0 y4_1 y4_2 y4_3
  try clear z7_0 z7_1 z7_2 z7_3 y5_0 y5_1 y5_2 y5_3
  try clear z8_0 z8_1 z8_2 z8_3 y6_0 y6_1 y6_2 y6_3
  obtain ⟨kq, x0_1, rfl, HA, HJ0, BK0, HB⟩ := hcut
  cases kq with
  | zero => exact absurd HA.out (by simp [stream_Check_p.j0])
  | succ kj0 =>
   have H := HA.out
   clear HA
   simp only [stream_Check_p.j0] at H
   by_cases c17 : x0_1 = true
   ·subst c17
    rw [if_pos rfl] at H
    obtain rfl := Option.some.inj H
    go_wp2
    go_ret
    exact ⟨Cz.er, Cz.bl (w := w)⟩
   replace c17 := Bool.eq_false_iff.mpr c17
   subst c17
   rw [if_neg (show ¬ (false = true) by decide)] at H
   have H' := Aside0.mk H
   clear H
   obtain ⟨z9_0, z9_1, z9_2, z9_3, y7_0, y7_1, y7_2, y7_3⟩ := Cz.d4 BK0
   go_wp2
   go_loopg [3, 46] kj0 (fun kq v3 v46 w' => ∃ (x1_2 : Int) (x2_2 : Int), v3 = .int .i64 x1_2 ∧ v46 = .int .i64 x2_2 ∧ Aside0 (stream_Check_p.l0 kq x1_2 l0_3 (l0_3.length : Int) x2_2 a0_0 a0_1 a0_2 l0_3 = some r) ∧ Aside0 (kq ≤ kj0) ∧ Aside0 (w'.heap[gb0]? = some (.cells #[.int .i64 a0_0, .int .i64 a0_1, .int .i64 a0_2, (.slice A0_3 l0_3.length c0_3)] 24 (0, 0))) ∧ Aside0 (Below w.heap.size w w'))
   case atStart => exact ⟨(0), (0), Cz.si, Cz.si, H', ⟨Nat.le_refl _⟩, ⟨by (with_reducible repeat (first | refine blk_drewN ?_ _ | refine blk_drew ?_ | refine blk_alloc ?_ _)); exact BK0.out⟩, ⟨Cz.bl (w := w)⟩⟩
   case round =>
    clear H'
    try clear c1
    try clear p2 p2
    try clear c3
    try clear c4
    try clear c4b0
    try clear c6
    try clear c6b0
    try clear c8
    try clear c8b0
    try clear c10
    try clear c10b0
    try clear c12
    try clear c12b0
    try clear c14
    try clear c14b0
    try clear c17
    try clear z0_0 z0_1 z0_2 z0_3 y0_0 y0_1 y0_2 y0_3
    try clear z3_0 z3_1 z3_2 z3_3 y1_0 y1_1 y1_2 y1_3
    try clear z4_0 z4_1 z4_2 z4_3 y2_0 y2_1 y2_2 y2_3
    try clear z5_0 z5_1 z5_2 z5_3 y3_0 y3_1 y3_2 y3_3
    try clear z9_0 z9_1 z9_2 z9_3 y7_0 y7_1 y7_2 y7_3
    try clear z6_0 z6_1 z6_2 z6_3 y4_0 y4_1 y4_2 y4_3
    try clear z7_0 z7_1 z7_2 z7_3 y5_0 y5_1 y5_2 y5_3
    try clear z8_0 z8_1 z8_2 z8_3 y6_0 y6_1 y6_2 y6_3
    obtain ⟨x1_2, x2_2, rfl, rfl, HA, HK0, BK0, HB⟩ := hrel
    cases gk with
    | zero => exact absurd HA.out (by simp [stream_Check_p.l0])
    | succ k2 =>
     have H := HA.out
     clear HA
     simp only [stream_Check_p.l0] at H
     by_cases c19 : x2_2 < (l0_3.length : Int)
     rotate_left
     ·rw [if_neg c19] at H
      have c19b0 : decide (x2_2 < (l0_3.length : Int)) = false := decide_eq_false c19
      clear c19
      obtain rfl := Option.some.inj H
      obtain ⟨z10_0, z10_1, z10_2, z10_3, y8_0, y8_1, y8_2, y8_3⟩ := Cz.d4 BK0
      go_wp2
      go_ret
      exact ⟨Cz.er, Cz.bl (w := w)⟩
     rw [if_pos c19] at H
     have c19b0 : decide (x2_2 < (l0_3.length : Int)) = true := decide_eq_true c19
     clear c19
     by_cases c20 : 0 ≤ x2_2
     rotate_left
     ·rw [if_neg c20] at H
      exact absurd H (by simp)
     rw [if_pos c20] at H
     have c20b0 : decide (0 ≤ x2_2) = true := decide_eq_true c20
     clear c20
     by_cases c21 : x2_2 < (l0_3.length : Int)
     rotate_left
     ·rw [if_neg c21] at H
      exact absurd H (by simp)
     rw [if_pos c21] at H
     have c21b0 : decide (x2_2 < (l0_3.length : Int)) = true := decide_eq_true c21
     clear c21
     have HC2 := Aside0.mk H
     clear H
     have p0 : 0 ≤ (x2_2 : Int) := of_decide_eq_true (by first | (with_reducible assumption) | assumption)
     have q0 : x2_2 < (l0_3.length : Int) := of_decide_eq_true (by first | (with_reducible assumption) | assumption)
     obtain ⟨ad0, A1_4, c7_4, e0, hx0_0, hx0_1, hx0_2, hx0_3, hx0_4, hl0_4, hi0_4⟩ := at_T36 HR0_3.out x2_2 p0 q0
     cases e0
     replace hx0_0 := Cz.hx HB hx0_0
     replace hx0_1 := Cz.hx HB hx0_1
     replace hx0_2 := Cz.hx HB hx0_2
     replace hx0_3 := Cz.hx HB hx0_3
     replace hx0_4 := Cz.hx HB hx0_4
     have HR1_4 := Aside0.mk hi0_4
     have HC3_4 := Aside0.mk hl0_4
     clear hi0_4 hl0_4
     replace p0 := eq_true p0
     replace q0 := eq_true q0
     go_upto_region 7 with (first | ((with_reducible refine gate_dst (N := 5) rfl ?_); (try (refine gate_guard (by rfl) ?_; dsimp only)); refine Cz.bx (N := 5) #[.int .i64 0, .int .i64 0, .int .i64 0, .int .i64 0, .slice none 0 0] 36 ?_; intro gb1 hg w0 hbox hb; have BK1 := Aside0.mk (hbox); have GW1 := Aside0.mk ((Cz.gs hg : w.heap.size ≤ gb1)); have GE1 := GW1; have NB0_207 := Aside0.mk ((Cz.nl BK0 hg : gb0 ≠ gb1)); have NB1_205 := Aside0.mk ((Cz.nr BK0 hg : gb1 ≠ gb0)); replace BK0 := Cz.bk BK0 hb; replace HB := Cz.bs (w := w) hb; clear hb hbox hg; have hnb0 := NB1_205.out; have hnc0 := NB0_207.out; obtain ⟨z10_0, z10_1, z10_2, z10_3, z10_4, y8_0, y8_1, y8_2, y8_3, y8_4⟩ := Cz.d5 BK1))
     (try simp only [Act.put, Kx.sb, Kx.sz, Kx.ss])
     go_cut [78] (fun v78 wc => ∃ (kq : Nat) (x3_21 : Bool), v78 = .bool x3_21 ∧ Aside0 (stream_Check_p.j2 kq l0_3 (l0_3.length : Int) x2_2 x3_21 a0_0 a0_1 a0_2 l0_3 ((rd_T36 l0_3 x2_2).f0) ((rd_T36 l0_3 x2_2).f1) ((rd_T36 l0_3 x2_2).f2) ((rd_T36 l0_3 x2_2).f3) ((rd_T36 l0_3 x2_2).f4) = some r) ∧ Aside0 (kq ≤ k2) ∧ Aside0 (wc.heap[gb0]? = some (.cells #[.int .i64 a0_0, .int .i64 a0_1, .int .i64 a0_2, (.slice (some ad0) l0_3.length c0_3)] 24 (0, 0))) ∧ Aside0 (wc.heap[gb1]? = some (.cells #[.int .i64 ((rd_T36 l0_3 x2_2).f0), .int .i64 ((rd_T36 l0_3 x2_2).f1), .int .i64 ((rd_T36 l0_3 x2_2).f2), .int .i64 ((rd_T36 l0_3 x2_2).f3), (.slice A1_4 ((rd_T36 l0_3 x2_2).f4).length c7_4)] 36 (0, 0))) ∧ Aside0 (Below w.heap.size w wc))
     case first =>
      have H := HC2.out
      clear HC2
      replace H := Option.bind_eq_some_iff.mp H
      obtain ⟨t208, A2, H⟩ := H
      (try dsimp only at H)
      have A3 := Aside0.mk A2
      clear A2
      by_cases c9 : t208 = true
      focus
       subst c9
       rw [if_pos rfl] at H
       by_cases c28 : ((rd_T36 l0_3 x2_2).f3) = 0
       focus
        rw [if_pos c28] at H
        have c28b0 : (((rd_T36 l0_3 x2_2).f3) == 0) = true := beq_iff_eq.mpr c28
        have c28b1 : (((rd_T36 l0_3 x2_2).f3) != 0) = false := bne_eq_false_iff_eq.mpr c28
        clear c28
        (first | rw [c28b0] | (simp only [i64_w, i32_w]; rw [c28b0]) | skip)
        by_cases c11 : ((rd_T36 l0_3 x2_2).f0) < x1_2
        rotate_left
        focus
         rw [if_neg c11] at H
         have c11b0 : decide (((rd_T36 l0_3 x2_2).f0) < x1_2) = false := decide_eq_false c11
         clear c11
         by_cases c13 : x2_2 > 0
        rotate_left 2
       rotate_left 4
      rotate_left 5
      focus
       rw [if_pos c11] at H
       have c11b0 : decide (((rd_T36 l0_3 x2_2).f0) < x1_2) = true := decide_eq_true c11
       clear c11
      rotate_left
      focus
       rw [if_pos c13] at H
       have c13b0 : decide (0 < x2_2) = true := decide_eq_true c13
       clear c13
       obtain ⟨ji0, hji0⟩ : ∃ j_ : Int, (wrap64 (x2_2 - 1)) = j_ := ⟨_, rfl⟩
       replace H : (if 0 ≤ (ji0) then (if (ji0) < (l0_3.length : Int) then ((extent_Joins.f ((rd_T36 l0_3 (ji0)).f0) ((rd_T36 l0_3 (ji0)).f1) ((rd_T36 l0_3 (ji0)).f2) ((rd_T36 l0_3 (ji0)).f3) ((rd_T36 l0_3 (ji0)).f4) ((rd_T36 l0_3 x2_2).f0) ((rd_T36 l0_3 x2_2).f1) ((rd_T36 l0_3 x2_2).f2) ((rd_T36 l0_3 x2_2).f3) ((rd_T36 l0_3 x2_2).f4)).bind fun t210 => (stream_Check_p.j2 k2 l0_3 (l0_3.length : Int) x2_2 t210 a0_0 a0_1 a0_2 l0_3 ((rd_T36 l0_3 x2_2).f0) ((rd_T36 l0_3 x2_2).f1) ((rd_T36 l0_3 x2_2).f2) ((rd_T36 l0_3 x2_2).f3) ((rd_T36 l0_3 x2_2).f4))) else (none)) else (none)) = some r := by first | (rw [hji0] at H; exact H) | (simp only [hji0] at H ⊢; exact H)
       (try rw [hji0] at A3)
       have hji0w : (IntKind.i64.wrap (x2_2 - 1)) = ji0 := (i64_w _).trans hji0
       by_cases c15 : 0 ≤ (ji0)
       rotate_left
       ·rw [if_neg c15] at H
        exact absurd H (by simp)
       rw [if_pos c15] at H
       have c15b0 : decide (0 ≤ (ji0)) = true := decide_eq_true c15
       clear c15
       by_cases c16 : (ji0) < (l0_3.length : Int)
       rotate_left
       ·rw [if_neg c16] at H
        exact absurd H (by simp)
       rw [if_pos c16] at H
       have c16b0 : decide ((ji0) < (l0_3.length : Int)) = true := decide_eq_true c16
       clear c16
       replace H := Option.bind_eq_some_iff.mp H
       obtain ⟨t210, A4, H⟩ := H
       (try dsimp only at H)
       have A5 := Aside0.mk A4
       clear A4
      rotate_left
      focus
       rw [if_neg c13] at H
       have c13b0 : decide (0 < x2_2) = false := decide_eq_false c13
       clear c13
      rotate_left
      focus
       rw [if_neg c28] at H
       have c28b0 : (((rd_T36 l0_3 x2_2).f3) == 0) = false := beq_eq_false_iff_ne.mpr c28
       have c28b1 : (((rd_T36 l0_3 x2_2).f3) != 0) = true := bne_iff_ne.mpr c28
       (first | rw [c28b0] | (simp only [i64_w, i32_w]; rw [c28b0]) | skip)
      rotate_left
      focus
       replace c9 := Bool.eq_false_iff.mpr c9
       subst c9
       rw [if_neg (show ¬ (false = true) by decide)] at H
      rotate_left
      all_goals
       have H' := Aside0.mk H
       clear H
       try go_wp2
       have n0_ : Aside0 ((((((w0.setCell ⟨gb1, 0, none⟩ (.int .i64 ((rd_T36 l0_3 x2_2).f0))).setCell ⟨gb1, 1, none⟩ (.int .i64 ((rd_T36 l0_3 x2_2).f1))).setCell ⟨gb1, 2, none⟩ (.int .i64 ((rd_T36 l0_3 x2_2).f2))).setCell ⟨gb1, 3, none⟩ (.int .i64 ((rd_T36 l0_3 x2_2).f3))).setCell ⟨gb1, 4, none⟩ (.slice A1_4 ((rd_T36 l0_3 x2_2).f4).length c7_4)).heap[gb0]? = some (.cells #[.int .i64 a0_0, .int .i64 a0_1, .int .i64 a0_2, .slice (some ad0) l0_3.length c0_3] 24 (0, 0))) := ⟨by (with_reducible repeat (first | refine blk_drewN ?_ _ | refine blk_drew ?_ | refine blk_alloc ?_ _)); refine blk_far ?_ NB0_207.out _; refine blk_far ?_ NB0_207.out _; refine blk_far ?_ NB0_207.out _; refine blk_far ?_ NB0_207.out _; refine blk_far ?_ NB0_207.out _; (with_reducible repeat (first | refine blk_drewN ?_ _ | refine blk_drew ?_ | refine blk_alloc ?_ _)); exact BK0.out⟩
       have n1_ : Aside0 ((((((w0.setCell ⟨gb1, 0, none⟩ (.int .i64 ((rd_T36 l0_3 x2_2).f0))).setCell ⟨gb1, 1, none⟩ (.int .i64 ((rd_T36 l0_3 x2_2).f1))).setCell ⟨gb1, 2, none⟩ (.int .i64 ((rd_T36 l0_3 x2_2).f2))).setCell ⟨gb1, 3, none⟩ (.int .i64 ((rd_T36 l0_3 x2_2).f3))).setCell ⟨gb1, 4, none⟩ (.slice A1_4 ((rd_T36 l0_3 x2_2).f4).length c7_4)).heap[gb1]? = some (.cells #[.int .i64 ((rd_T36 l0_3 x2_2).f0), .int .i64 ((rd_T36 l0_3 x2_2).f1), .int .i64 ((rd_T36 l0_3 x2_2).f2), .int .i64 ((rd_T36 l0_3 x2_2).f3), .slice A1_4 ((rd_T36 l0_3 x2_2).f4).length c7_4] 36 (0, 0))) := ⟨by (with_reducible repeat (first | refine blk_drewN ?_ _ | refine blk_drew ?_ | refine blk_alloc ?_ _)); apply Cz.a5; (with_reducible repeat (first | refine blk_drewN ?_ _ | refine blk_drew ?_ | refine blk_alloc ?_ _)); exact BK1.out⟩
       have n2_ : Aside0 (Below w.heap.size w (((((w0.setCell ⟨gb1, 0, none⟩ (.int .i64 ((rd_T36 l0_3 x2_2).f0))).setCell ⟨gb1, 1, none⟩ (.int .i64 ((rd_T36 l0_3 x2_2).f1))).setCell ⟨gb1, 2, none⟩ (.int .i64 ((rd_T36 l0_3 x2_2).f2))).setCell ⟨gb1, 3, none⟩ (.int .i64 ((rd_T36 l0_3 x2_2).f3))).setCell ⟨gb1, 4, none⟩ (.slice A1_4 ((rd_T36 l0_3 x2_2).f4).length c7_4))) := ⟨Cz.bl (w := w)⟩
       (try clear BK0)
       (try clear BK1)
       (try clear HB)
       generalize (((((w0.setCell ⟨gb1, 0, none⟩ (.int .i64 ((rd_T36 l0_3 x2_2).f0))).setCell ⟨gb1, 1, none⟩ (.int .i64 ((rd_T36 l0_3 x2_2).f1))).setCell ⟨gb1, 2, none⟩ (.int .i64 ((rd_T36 l0_3 x2_2).f2))).setCell ⟨gb1, 3, none⟩ (.int .i64 ((rd_T36 l0_3 x2_2).f3))).setCell ⟨gb1, 4, none⟩ (.slice A1_4 ((rd_T36 l0_3 x2_2).f4).length c7_4)) = w1 at n0_ n1_ n2_ ⊢
       have BK0 := n0_
       have BK1 := n1_
       have HB := n2_
       clear n0_ n1_ n2_
       replace BK0 := Aside0.mk (blk_drew BK0.out)
       replace BK1 := Aside0.mk (blk_drew BK1.out)
       replace HB := Aside0.mk (below_drew1 HB.out)
      focus
       refine Cz.s5 (n := 28) (ds := []) BK1 (fun hHeld => ?_); refine with_tabW stream_Check_p.tab7 stream_Check_p.bits7 (fun HT_ HW_ => ?_)
       generalize w1.drew = w2 at BK0 BK1 HB hHeld ⊢
      rotate_left
      focus
       have p1 : 0 ≤ ((ji0) : Int) := of_decide_eq_true (by first | (with_reducible assumption) | assumption)
       have q1 : (ji0) < (l0_3.length : Int) := of_decide_eq_true (by first | (with_reducible assumption) | assumption)
       obtain ⟨ad1, A6_4, c18_4, e1, hx1_0, hx1_1, hx1_2, hx1_3, hx1_4, hl1_4, hi1_4⟩ := at_T36 HR0_3.out (ji0) p1 q1
       have hw0_4 := hx1_4
       have hw0_3 := hx1_3
       have hw0_2 := hx1_2
       have hw0_1 := hx1_1
       have hw0_0 := hx1_0
       obtain rfl : ad0 = ad1 := (by injection e1)
       replace hx1_0 := Cz.hx HB hx1_0
       replace hx1_1 := Cz.hx HB hx1_1
       replace hx1_2 := Cz.hx HB hx1_2
       replace hx1_3 := Cz.hx HB hx1_3
       replace hx1_4 := Cz.hx HB hx1_4
       have HR2_4 := Aside0.mk hi1_4
       have HC4_4 := Aside0.mk hl1_4
       clear hi1_4 hl1_4
       replace p1 := eq_true p1
       replace q1 := eq_true q1
       refine start_ (n := 28) (S := fun w' => w'.cell? ⟨gb1, 0, none⟩ = some (.int .i64 ((rd_T36 l0_3 x2_2).f0)) ∧ w'.cell? ⟨gb1, 1, none⟩ = some (.int .i64 ((rd_T36 l0_3 x2_2).f1)) ∧ w'.cell? ⟨gb1, 2, none⟩ = some (.int .i64 ((rd_T36 l0_3 x2_2).f2)) ∧ w'.cell? ⟨gb1, 3, none⟩ = some (.int .i64 ((rd_T36 l0_3 x2_2).f3)) ∧ w'.cell? ⟨gb1, 4, none⟩ = some (.slice A1_4 ((rd_T36 l0_3 x2_2).f4).length c7_4) ∧ w'.cell? ⟨gb0, 0, none⟩ = some (.int .i64 a0_0) ∧ w'.cell? ⟨gb0, 1, none⟩ = some (.int .i64 a0_1) ∧ w'.cell? ⟨gb0, 2, none⟩ = some (.int .i64 a0_2) ∧ w'.cell? ⟨gb0, 3, none⟩ = some (.slice (some ad0) l0_3.length c0_3) ∧ w'.cell? (ad0.add (((ji0)).toNat * 5)) = some (.int .i64 ((rd_T36 l0_3 (ji0)).f0)) ∧ w'.cell? ⟨(ad0.add (((ji0)).toNat * 5)).block, (ad0.add (((ji0)).toNat * 5)).off + 1, none⟩ = some (.int .i64 ((rd_T36 l0_3 (ji0)).f1)) ∧ w'.cell? ⟨(ad0.add (((ji0)).toNat * 5)).block, (ad0.add (((ji0)).toNat * 5)).off + 2, none⟩ = some (.int .i64 ((rd_T36 l0_3 (ji0)).f2)) ∧ w'.cell? ⟨(ad0.add (((ji0)).toNat * 5)).block, (ad0.add (((ji0)).toNat * 5)).off + 3, none⟩ = some (.int .i64 ((rd_T36 l0_3 (ji0)).f3)) ∧ w'.cell? ⟨(ad0.add (((ji0)).toNat * 5)).block, (ad0.add (((ji0)).toNat * 5)).off + 4, none⟩ = some (.slice A6_4 ((rd_T36 l0_3 (ji0)).f4).length c18_4)) (ds := []) #[false, false, false, false, false, false, false, false, false, false, false, false, false, false, false, false, false, false, false, false, false, false, false, false, false, false, false, false] (by kernel_rfl) rfl rfl ⟨(blk_cell BK1.out 0).trans rfl, (blk_cell BK1.out 1).trans rfl, (blk_cell BK1.out 2).trans rfl, (blk_cell BK1.out 3).trans rfl, (blk_cell BK1.out 4).trans rfl, (blk_cell BK0.out 0).trans rfl, (blk_cell BK0.out 1).trans rfl, (blk_cell BK0.out 2).trans rfl, (blk_cell BK0.out 3).trans rfl, (Cz.hx HB hw0_0), (Cz.hx HB hw0_1), (Cz.hx HB hw0_2), (Cz.hx HB hw0_3), (Cz.hx HB hw0_4)⟩ (fun hHeld => ?_); refine with_tabW stream_Check_p.tab7 stream_Check_p.bits7 (fun HT_ HW_ => ?_)
       generalize w1.drew = w2 at BK0 BK1 HB HR2_4 hx1_0 hx1_1 hx1_2 hx1_3 hx1_4 hHeld ⊢
      rotate_left
      iterate 3
       focus
        refine Cz.s5 (n := 28) (ds := []) BK1 (fun hHeld => ?_); refine with_tabW stream_Check_p.tab7 stream_Check_p.bits7 (fun HT_ HW_ => ?_)
        generalize w1.drew = w2 at BK0 BK1 HB hHeld ⊢
       rotate_left
      all_goals
       refine Cz.qT 0 51 HT_ HW_ hHeld ?_
       refine Cz.qO (N := some 52) 1 HT_ (fun K hK => ?_)
       refine Cz.gO Try.func55 #[.agg #[.int .i64 ((rd_T36 l0_3 x2_2).f0), .int .i64 ((rd_T36 l0_3 x2_2).f1), .int .i64 ((rd_T36 l0_3 x2_2).f2), .int .i64 ((rd_T36 l0_3 x2_2).f3), .slice A1_4 ((rd_T36 l0_3 x2_2).f4).length c7_4]] ?_
      focus
       with_reducible refine (extent_Check.calls ((rd_T36 l0_3 x2_2).f0) ((rd_T36 l0_3 x2_2).f1) ((rd_T36 l0_3 x2_2).f2) ((rd_T36 l0_3 x2_2).f3) _ _ ((rd_T36 l0_3 x2_2).f4) true _ ?side0 ?side1 A3.out).mono ?_
       (case side0 => exact Cz.cb HR1_4)
       (case side1 => exact HC3_4.out)
       rintro e w32 ⟨rfl, hb⟩
      rotate_left
      iterate 3
       focus
        with_reducible refine (extent_Check.calls ((rd_T36 l0_3 x2_2).f0) ((rd_T36 l0_3 x2_2).f1) ((rd_T36 l0_3 x2_2).f2) ((rd_T36 l0_3 x2_2).f3) _ _ ((rd_T36 l0_3 x2_2).f4) true _ ?side0 ?side1 A3.out).mono ?_
        (case side0 => exact Cz.cb HR1_4)
        (case side1 => exact HC3_4.out)
        rintro e w4 ⟨rfl, hb⟩
       rotate_left
      focus
       with_reducible refine (extent_Check.calls ((rd_T36 l0_3 x2_2).f0) ((rd_T36 l0_3 x2_2).f1) ((rd_T36 l0_3 x2_2).f2) ((rd_T36 l0_3 x2_2).f3) _ _ ((rd_T36 l0_3 x2_2).f4) false _ ?side0 ?side1 A3.out).mono ?_
       (case side0 => exact Cz.cb HR1_4)
       (case side1 => exact HC3_4.out)
       rintro e w4 ⟨rfl, hb⟩
      rotate_left
      all_goals
       refine ⟨_, rfl, ?_⟩
       replace BK0 := Cz.bk BK0 hb
       replace BK1 := Cz.bk BK1 hb
       replace HB := Cz.bs (w := w) hb
       (try clear hb)
       (try clear hb2)
       (try clear hk)
       (try clear hi)
      focus refine hK.out _ _ ⟨(blk_cell BK1.out 0).trans rfl, (blk_cell BK1.out 1).trans rfl, (blk_cell BK1.out 2).trans rfl, (blk_cell BK1.out 3).trans rfl, (blk_cell BK1.out 4).trans rfl⟩ (fun hHeld => ?_)
      rotate_left
      focus refine hK.out _ _ ⟨(blk_cell BK1.out 0).trans rfl, (blk_cell BK1.out 1).trans rfl, (blk_cell BK1.out 2).trans rfl, (blk_cell BK1.out 3).trans rfl, (blk_cell BK1.out 4).trans rfl, (blk_cell BK0.out 0).trans rfl, (blk_cell BK0.out 1).trans rfl, (blk_cell BK0.out 2).trans rfl, (blk_cell BK0.out 3).trans rfl, (Cz.hx HB hw0_0), (Cz.hx HB hw0_1), (Cz.hx HB hw0_2), (Cz.hx HB hw0_3), (Cz.hx HB hw0_4)⟩ (fun hHeld => ?_)
      rotate_left
      iterate 3
       focus refine hK.out _ _ ⟨(blk_cell BK1.out 0).trans rfl, (blk_cell BK1.out 1).trans rfl, (blk_cell BK1.out 2).trans rfl, (blk_cell BK1.out 3).trans rfl, (blk_cell BK1.out 4).trans rfl⟩ (fun hHeld => ?_)
       rotate_left
      all_goals
       clear hK K
       refine Cz.nm (some 52) ?_
       refine Cz.qP 2 53 HT_ ?_
       refine Cz.qP 3 54 HT_ ?_
      iterate 4
       focus
        refine Cz.qP 4 55 HT_ ?_
        refine Cz.qT 5 56 HT_ HW_ hHeld ?_
        refine Cz.qP 6 57 HT_ ?_
       rotate_left
      focus
       refine Cz.qU 4 55 HT_ ?_
       refine Cz.qU 5 56 HT_ ?_
       refine Cz.qU 6 57 HT_ ?_
      rotate_left
      all_goals
       refine Cz.qP 7 58 HT_ ?_
       refine Cz.qP 8 59 HT_ ?_
      iterate 3
       focus
        refine Cz.qP 9 60 HT_ ?_
        refine Cz.qP 11 62 HT_ ?_
        refine Cz.qT 10 61 HT_ HW_ hHeld ?_
        refine Cz.qP 12 63 HT_ ?_
       rotate_left
      iterate 2
       focus
        refine Cz.qU 9 60 HT_ ?_
        refine Cz.qU 10 61 HT_ ?_
        refine Cz.qU 11 62 HT_ ?_
        refine Cz.qU 12 63 HT_ ?_
       rotate_left
      all_goals
       refine Cz.qP 13 64 HT_ ?_
       refine Cz.qP 14 65 HT_ ?_
      focus
       refine Cz.qU 15 66 HT_ ?_
       refine Cz.qU 16 67 HT_ ?_
       refine Cz.qU 17 68 HT_ ?_
       refine Cz.qU 18 69 HT_ ?_
       refine Cz.qU 19 70 HT_ ?_
       refine Cz.qU 20 71 HT_ ?_
       refine Cz.qU 21 72 HT_ ?_
       refine Cz.qU 22 73 HT_ ?_
       refine Cz.qU 23 74 HT_ ?_
       refine Cz.qU 24 75 HT_ ?_
       refine Cz.qU 25 76 HT_ ?_
       refine Cz.qU 26 77 HT_ ?_
      rotate_left
      focus
       refine Cz.qP 15 66 HT_ ?_
       refine Cz.qP 16 67 HT_ ?_
       refine Cz.qP 17 68 HT_ ?_
       refine Cz.qP 18 69 HT_ ?_
       refine Cz.qP 20 71 HT_ ?_
       refine Cz.qP 21 72 HT_ ?_
       refine Cz.qT 19 70 HT_ HW_ hHeld ?_
       refine Cz.qP 22 73 HT_ ?_
       refine Cz.qT 23 74 HT_ HW_ hHeld ?_
       refine Cz.qT 24 75 HT_ HW_ hHeld ?_
       refine Cz.qO (N := some 76) 25 HT_ (fun K hK => ?_)
       refine goes_ Try.func56 (by kernel_rfl) rfl #[.agg #[.int .i64 ((rd_T36 l0_3 (ji0)).f0), .int .i64 ((rd_T36 l0_3 (ji0)).f1), .int .i64 ((rd_T36 l0_3 (ji0)).f2), .int .i64 ((rd_T36 l0_3 (ji0)).f3), .slice A6_4 ((rd_T36 l0_3 (ji0)).f4).length c18_4], .agg #[.int .i64 ((rd_T36 l0_3 x2_2).f0), .int .i64 ((rd_T36 l0_3 x2_2).f1), .int .i64 ((rd_T36 l0_3 x2_2).f2), .int .i64 ((rd_T36 l0_3 x2_2).f3), .slice A1_4 ((rd_T36 l0_3 x2_2).f4).length c7_4]] (by rfl) rfl rfl (by (try simp only [List.map_toArray, List.map_cons, List.map_nil]); first | done | (simp only [hji0]; rfl) | rfl | (simp only [List.length_drop, List.length_take]; rfl)) ?_
       with_reducible refine (extent_Joins.calls ((rd_T36 l0_3 (ji0)).f0) ((rd_T36 l0_3 (ji0)).f1) ((rd_T36 l0_3 (ji0)).f2) ((rd_T36 l0_3 (ji0)).f3) _ _ ((rd_T36 l0_3 (ji0)).f4) ((rd_T36 l0_3 x2_2).f0) ((rd_T36 l0_3 x2_2).f1) ((rd_T36 l0_3 x2_2).f2) ((rd_T36 l0_3 x2_2).f3) _ _ ((rd_T36 l0_3 x2_2).f4) t210 _ ?side0 ?side1 ?side2 ?side3 A5.out).mono ?_
       (case side0 => exact Cz.cb HR2_4)
       (case side1 => exact HC4_4.out)
       (case side2 => exact Cz.cb HR1_4)
       (case side3 => exact HC3_4.out)
       rintro e w5 ⟨rfl, hb⟩
       refine ⟨_, rfl, ?_⟩
       replace BK0 := Cz.bk BK0 hb
       replace BK1 := Cz.bk BK1 hb
       replace HB := Cz.bs (w := w) hb
       (try clear hb)
       (try clear hb2)
       (try clear hk)
       (try clear hi)
       refine hK.out _ _ ⟨(blk_cell BK1.out 0).trans rfl, (blk_cell BK1.out 1).trans rfl, (blk_cell BK1.out 2).trans rfl, (blk_cell BK1.out 3).trans rfl, (blk_cell BK1.out 4).trans rfl, (blk_cell BK0.out 0).trans rfl, (blk_cell BK0.out 1).trans rfl, (blk_cell BK0.out 2).trans rfl, (blk_cell BK0.out 3).trans rfl, (Cz.hx HB hw0_0), (Cz.hx HB hw0_1), (Cz.hx HB hw0_2), (Cz.hx HB hw0_3), (Cz.hx HB hw0_4)⟩ (fun hHeld => ?_)
       clear hK K
       refine Cz.nm (some 76) ?_
       refine Cz.qP 26 77 HT_ ?_
      rotate_left
      focus
       refine Cz.qP 15 66 HT_ ?_
       refine Cz.qP 16 67 HT_ ?_
       refine Cz.qP 17 68 HT_ ?_
       refine Cz.qU 18 69 HT_ ?_
       refine Cz.qU 19 70 HT_ ?_
       refine Cz.qU 20 71 HT_ ?_
       refine Cz.qU 21 72 HT_ ?_
       refine Cz.qU 22 73 HT_ ?_
       refine Cz.qU 23 74 HT_ ?_
       refine Cz.qU 24 75 HT_ ?_
       refine Cz.qU 25 76 HT_ ?_
       refine Cz.qP 26 77 HT_ ?_
      rotate_left
      iterate 2
       focus
        refine Cz.qU 15 66 HT_ ?_
        refine Cz.qU 16 67 HT_ ?_
        refine Cz.qU 17 68 HT_ ?_
        refine Cz.qU 18 69 HT_ ?_
        refine Cz.qU 19 70 HT_ ?_
        refine Cz.qU 20 71 HT_ ?_
        refine Cz.qU 21 72 HT_ ?_
        refine Cz.qU 22 73 HT_ ?_
        refine Cz.qU 23 74 HT_ ?_
        refine Cz.qU 24 75 HT_ ?_
        refine Cz.qU 25 76 HT_ ?_
        refine Cz.qU 26 77 HT_ ?_
       rotate_left
      all_goals
       refine Cz.qP 27 78 HT_ ?_
       refine done_ (done_of HT_.out (by kernel_rfl)) ?_
       try go_wp2
      ·go_meet
       case rel => exact ⟨_, (true), Cz.si, H', ⟨by have := HJ0.out; have := HK0.out; first | omega | exact Nat.le_refl _⟩, ⟨by (with_reducible repeat (first | refine blk_drewN ?_ _ | refine blk_drew ?_ | refine blk_alloc ?_ _)); exact BK0.out⟩, ⟨by (with_reducible repeat (first | refine blk_drewN ?_ _ | refine blk_drew ?_ | refine blk_alloc ?_ _)); exact BK1.out⟩, ⟨Cz.bl (w := w)⟩⟩
      ·go_meet
       case rel => exact ⟨_, (t210), Cz.si, H', ⟨by have := HJ0.out; have := HK0.out; first | omega | exact Nat.le_refl _⟩, ⟨by (with_reducible repeat (first | refine blk_drewN ?_ _ | refine blk_drew ?_ | refine blk_alloc ?_ _)); exact BK0.out⟩, ⟨by (with_reducible repeat (first | refine blk_drewN ?_ _ | refine blk_drew ?_ | refine blk_alloc ?_ _)); exact BK1.out⟩, ⟨Cz.bl (w := w)⟩⟩
      ·go_meet
       case rel => exact ⟨_, (false), Cz.si, H', ⟨by have := HJ0.out; have := HK0.out; first | omega | exact Nat.le_refl _⟩, ⟨by (with_reducible repeat (first | refine blk_drewN ?_ _ | refine blk_drew ?_ | refine blk_alloc ?_ _)); exact BK0.out⟩, ⟨by (with_reducible repeat (first | refine blk_drewN ?_ _ | refine blk_drew ?_ | refine blk_alloc ?_ _)); exact BK1.out⟩, ⟨Cz.bl (w := w)⟩⟩
      ·go_meet
       case rel => exact ⟨_, (true), Cz.si, H', ⟨by have := HJ0.out; have := HK0.out; first | omega | exact Nat.le_refl _⟩, ⟨by (with_reducible repeat (first | refine blk_drewN ?_ _ | refine blk_drew ?_ | refine blk_alloc ?_ _)); exact BK0.out⟩, ⟨by (with_reducible repeat (first | refine blk_drewN ?_ _ | refine blk_drew ?_ | refine blk_alloc ?_ _)); exact BK1.out⟩, ⟨Cz.bl (w := w)⟩⟩
      ·go_meet
       case rel => exact ⟨_, (true), Cz.si, H', ⟨by have := HJ0.out; have := HK0.out; first | omega | exact Nat.le_refl _⟩, ⟨by (with_reducible repeat (first | refine blk_drewN ?_ _ | refine blk_drew ?_ | refine blk_alloc ?_ _)); exact BK0.out⟩, ⟨by (with_reducible repeat (first | refine blk_drewN ?_ _ | refine blk_drew ?_ | refine blk_alloc ?_ _)); exact BK1.out⟩, ⟨Cz.bl (w := w)⟩⟩
     case rest =>
      clear HC2
      try clear c2
      try clear p2
      try clear c5
      try clear c20
      try clear c9
      try clear c28
      try clear c28b0
      try clear c28b1
      obtain ⟨kq, x3_21, rfl, HA, HJ1, BK0, BK1, HB⟩ := hcut
      cases kq with
      | zero => exact absurd HA.out (by simp [stream_Check_p.j2])
      | succ kj1 =>
       have H := HA.out
       clear HA
       simp only [stream_Check_p.j2] at H
       by_cases c51 : x3_21 = true
       ·subst c51
        rw [if_pos rfl] at H
        obtain rfl := Option.some.inj H
        go_wp2
        go_ret
        exact ⟨Cz.er, Cz.bl (w := w)⟩
       replace c51 := Bool.eq_false_iff.mpr c51
       subst c51
       rw [if_neg (show ¬ (false = true) by decide)] at H
       replace H := Option.bind_eq_some_iff.mp H
       obtain ⟨t0, A4, H⟩ := H
       (try dsimp only at H)
       have A5 := Aside0.mk A4
       clear A4
       by_cases c53 : t0 = true
       focus
        subst c53
        rw [if_pos rfl] at H
        obtain rfl := Option.some.inj H
       rotate_left
       focus
        replace c53 := Bool.eq_false_iff.mpr c53
        subst c53
        rw [if_neg (show ¬ (false = true) by decide)] at H
        have H' := Aside0.mk H
        clear H
       rotate_left
       all_goals
        have hnb1 := NB1_205.out
        have hnc1 := NB0_207.out
        have z11_0 : wc.cell? ⟨gb1, 0, none⟩ = some (.int .i64 ((rd_T36 l0_3 x2_2).f0)) := (blk_cell BK1.out 0).trans rfl
        have z11_1 : wc.cell? ⟨gb1, 1, none⟩ = some (.int .i64 ((rd_T36 l0_3 x2_2).f1)) := (blk_cell BK1.out 1).trans rfl
        have z11_2 : wc.cell? ⟨gb1, 2, none⟩ = some (.int .i64 ((rd_T36 l0_3 x2_2).f2)) := (blk_cell BK1.out 2).trans rfl
        have z11_3 : wc.cell? ⟨gb1, 3, none⟩ = some (.int .i64 ((rd_T36 l0_3 x2_2).f3)) := (blk_cell BK1.out 3).trans rfl
        have z11_4 : wc.cell? ⟨gb1, 4, none⟩ = some (.slice A1_4 ((rd_T36 l0_3 x2_2).f4).length c7_4) := (blk_cell BK1.out 4).trans rfl
        obtain ⟨y9_0, y9_1, y9_2, y9_3, y9_4⟩ := Cz.f5 BK1
        go_wp2
       ·go_loopg [6] (((rd_T36 l0_3 x2_2).f4).length + 1) (fun kq v6 w' => ∃ (Az : Option Addr) (cz : Nat) (d : List Int), v6 = .slice Az d.length cz ∧ Aside0 (d.length < kq) ∧ Aside0 (Pl.zerS d = true) ∧ Aside0 (d.length ≤ cz) ∧ Aside0 (Kd.C (Kd.int .u8) w' Az d.length d) ∧ Aside0 (w'.heap[gb0]? = some (.cells #[.int .i64 a0_0, .int .i64 a0_1, .int .i64 a0_2, .slice (some ad0) l0_3.length c0_3] 24 (0, 0))) ∧ Aside0 (w'.heap[gb1]? = some (.cells #[.int .i64 ((rd_T36 l0_3 x2_2).f0), .int .i64 ((rd_T36 l0_3 x2_2).f1), .int .i64 ((rd_T36 l0_3 x2_2).f2), .int .i64 ((rd_T36 l0_3 x2_2).f3), .slice A1_4 ((rd_T36 l0_3 x2_2).f4).length c7_4] 36 (0, 0))) ∧ Aside0 (Below w.heap.size w w'))
        case atStart => exact ⟨_, _, ((rd_T36 l0_3 x2_2).f4), rfl, ⟨Nat.lt_succ_self _⟩, ⟨Option.some.inj A5.out⟩, HC3_4, ⟨Kd.C_below HR1_4.out HB.out⟩, BK0, BK1, HB⟩
        case round =>
         clear BK0 BK1 HB z11_0 z11_1 z11_2 z11_3 z11_4 y9_0 y9_1 y9_2 y9_3 y9_4
         obtain ⟨Az, cz, d, rfl, HQ, HZ, HZC, HZR, BK0, BK1, HB⟩ := hrel
         by_cases h32 : d.length < 32
         ·exact absurd HZ.out (by rw [Pl.zerS_short h32]; decide)
         have HZ0 := HZ.out
         clear HZ
         rw [Pl.zerS_long h32, Bool.or_eq_true] at HZ0
         have H0 := Aside0.mk (Nat.le_of_not_lt h32)
         have z1 : decide (32 ≤ d.length) = true := decide_eq_true (by omega)
         have z2 : decide ((32 : Int) ≤ (d.length : Int)) = true := decide_eq_true (by omega)
         clear h32
         by_cases hz : Pl.zeroB (d.take 32) = true
         focus clear HZ0
         rotate_left
         focus
          have HZN := Aside0.mk (HZ0.resolve_left hz)
          clear HZ0
          rw [Bool.not_eq_true] at hz
         rotate_left
         all_goals
          have HZB := Aside0.mk hz
          obtain ⟨i0z, hi1z, _, hszz, _⟩ := info_parts info5
          have hcutz := cut_to (P := Try.prog) 27 5 .i64 Try.underlying27 hi1z Az d.length cz (32 : Int) (by omega) (by have := H0.out; omega) HZC.out
          rw [show ((32 : Int)).toNat = 32 from rfl] at hcutz
         ·clear hi1z hszz
          go_wp2_with (first | ((with_reducible refine gate_callee (f := 57) rfl ?_); refine Cz.gL (N := (some 93)) Try.func57 #[.slice Az 32 cz] ?_; (with_reducible refine (stream_zeros Az cz d true _ HZR.out H0.out HZC.out HZB.out).mono ?_); rintro e w' ⟨rfl, ⟨nd, rfl⟩⟩; refine ⟨_, rfl, ?_⟩))
          clear hz
          go_ret
          exact ⟨Cz.er, Cz.bl (w := w)⟩
         ·obtain ⟨An, hcutn, hAn, hCn⟩ := print_drop_of (P := Try.prog) (Value.int .u8) 0 27 5 .i64 Try.underlying27 hi1z hszz Az cz d (32 : Int) (by omega) (by have := H0.out; omega) HZC.out
          rw [show ((32 : Int)).toNat = 32 from rfl] at hcutn hAn hCn
          have HRn := Aside0.mk (Kd.C_of_reads (h1 := fun _ => rfl) (hAn _ (Kd.reads_of_C HZR.out)))
          have HCn := Aside0.mk hCn
          have HLn := Aside0.mk (show (d.drop 32).length = d.length - 32 from List.length_drop)
          clear hAn hCn
          clear hi1z hszz
          go_wp2_with (first | ((with_reducible refine gate_callee (f := 57) rfl ?_); refine Cz.gL (N := (some 93)) Try.func57 #[.slice Az 32 cz] ?_; (with_reducible refine (stream_zeros Az cz d false _ HZR.out H0.out HZC.out HZB.out).mono ?_); rintro e w' ⟨rfl, ⟨nd, rfl⟩⟩; refine ⟨_, rfl, ?_⟩))
          clear hz
          go_roundg ((d.drop 32).length + 1)
          case measure => have := HQ.out; have := H0.out; rw [List.length_drop]; omega
          case rel => exact ⟨An, _, d.drop 32, (by first | rfl | (simp; done) | (simp [*]; done) | (rw [HLn.out])), ⟨Nat.lt_succ_self _⟩, HZN, HCn, ⟨by (with_reducible repeat (first | refine Kd.C_alloc ?_ _ | refine Kd.C_drewN ?_ _ | refine Kd.C_drew ?_)); exact HRn.out⟩, ⟨by (with_reducible repeat (first | refine blk_drewN ?_ _ | refine blk_drew ?_ | refine blk_alloc ?_ _)); exact BK0.out⟩, ⟨by (with_reducible repeat (first | refine blk_drewN ?_ _ | refine blk_drew ?_ | refine blk_alloc ?_ _)); exact BK1.out⟩, ⟨Cz.bl (w := w)⟩⟩
       ·go_loopg [6] (((rd_T36 l0_3 x2_2).f4).length + 1) (fun kq v6 w' => ∃ (Az : Option Addr) (cz : Nat) (d : List Int), v6 = .slice Az d.length cz ∧ Aside0 (d.length < kq) ∧ Aside0 (Pl.zerS d = false) ∧ Aside0 (d.length ≤ cz) ∧ Aside0 (Kd.C (Kd.int .u8) w' Az d.length d) ∧ Aside0 (w'.heap[gb0]? = some (.cells #[.int .i64 a0_0, .int .i64 a0_1, .int .i64 a0_2, .slice (some ad0) l0_3.length c0_3] 24 (0, 0))) ∧ Aside0 (w'.heap[gb1]? = some (.cells #[.int .i64 ((rd_T36 l0_3 x2_2).f0), .int .i64 ((rd_T36 l0_3 x2_2).f1), .int .i64 ((rd_T36 l0_3 x2_2).f2), .int .i64 ((rd_T36 l0_3 x2_2).f3), .slice A1_4 ((rd_T36 l0_3 x2_2).f4).length c7_4] 36 (0, 0))) ∧ Aside0 (Below w.heap.size w w'))
        case atStart => exact ⟨_, _, ((rd_T36 l0_3 x2_2).f4), rfl, ⟨Nat.lt_succ_self _⟩, ⟨Option.some.inj A5.out⟩, HC3_4, ⟨Kd.C_below HR1_4.out HB.out⟩, BK0, BK1, HB⟩
        case round =>
         clear BK0 BK1 HB z11_0 z11_1 z11_2 z11_3 z11_4 y9_0 y9_1 y9_2 y9_3 y9_4
         obtain ⟨Az, cz, d, rfl, HQ, HZ, HZC, HZR, BK0, BK1, HB⟩ := hrel
         by_cases h32 : d.length < 32
         ·have z1 : decide (32 ≤ d.length) = false := decide_eq_false (by omega)
          have z2 : decide ((32 : Int) ≤ (d.length : Int)) = false := decide_eq_false (by omega)
          clear h32
          go_wp2
          go_roundg kj1
          case measure => have := HJ0.out; have := HK0.out; have := HJ1.out; omega
          case rel => exact ⟨(wrap64 (((rd_T36 l0_3 x2_2).f0) + ((rd_T36 l0_3 x2_2).f1))), (wrap64 (x2_2 + 1)), Cz.si, Cz.si, H', ⟨by have := HJ0.out; have := HK0.out; have := HJ1.out; omega⟩, ⟨by (with_reducible repeat (first | refine blk_drewN ?_ _ | refine blk_drew ?_ | refine blk_alloc ?_ _)); exact BK0.out⟩, ⟨Cz.bl (w := w)⟩⟩
         have HZ0 := HZ.out
         clear HZ
         rw [Pl.zerS_long h32, Bool.or_eq_false_iff] at HZ0
         have H0 := Aside0.mk (Nat.le_of_not_lt h32)
         have z1 : decide (32 ≤ d.length) = true := decide_eq_true (by omega)
         have z2 : decide ((32 : Int) ≤ (d.length : Int)) = true := decide_eq_true (by omega)
         clear h32
         obtain ⟨hz, hzn⟩ := HZ0
         have HZN := Aside0.mk hzn
         clear hzn
         have HZB := Aside0.mk hz
         obtain ⟨i0z, hi1z, _, hszz, _⟩ := info_parts info5
         have hcutz := cut_to (P := Try.prog) 27 5 .i64 Try.underlying27 hi1z Az d.length cz (32 : Int) (by omega) (by have := H0.out; omega) HZC.out
         rw [show ((32 : Int)).toNat = 32 from rfl] at hcutz
         obtain ⟨An, hcutn, hAn, hCn⟩ := print_drop_of (P := Try.prog) (Value.int .u8) 0 27 5 .i64 Try.underlying27 hi1z hszz Az cz d (32 : Int) (by omega) (by have := H0.out; omega) HZC.out
         rw [show ((32 : Int)).toNat = 32 from rfl] at hcutn hAn hCn
         have HRn := Aside0.mk (Kd.C_of_reads (h1 := fun _ => rfl) (hAn _ (Kd.reads_of_C HZR.out)))
         have HCn := Aside0.mk hCn
         have HLn := Aside0.mk (show (d.drop 32).length = d.length - 32 from List.length_drop)
         clear hAn hCn
         clear hi1z hszz
         go_wp2_with (first | ((with_reducible refine gate_callee (f := 57) rfl ?_); refine Cz.gL (N := (some 93)) Try.func57 #[.slice Az 32 cz] ?_; (with_reducible refine (stream_zeros Az cz d false _ HZR.out H0.out HZC.out HZB.out).mono ?_); rintro e w' ⟨rfl, ⟨nd, rfl⟩⟩; refine ⟨_, rfl, ?_⟩))
         clear hz
         go_roundg ((d.drop 32).length + 1)
         case measure => have := HQ.out; have := H0.out; rw [List.length_drop]; omega
         case rel => exact ⟨An, _, d.drop 32, (by first | rfl | (simp; done) | (simp [*]; done) | (rw [HLn.out])), ⟨Nat.lt_succ_self _⟩, HZN, HCn, ⟨by (with_reducible repeat (first | refine Kd.C_alloc ?_ _ | refine Kd.C_drewN ?_ _ | refine Kd.C_drew ?_)); exact HRn.out⟩, ⟨by (with_reducible repeat (first | refine blk_drewN ?_ _ | refine blk_drew ?_ | refine blk_alloc ?_ _)); exact BK0.out⟩, ⟨by (with_reducible repeat (first | refine blk_drewN ?_ _ | refine blk_drew ?_ | refine blk_alloc ?_ _)); exact BK1.out⟩, ⟨Cz.bl (w := w)⟩⟩
end Go.Proofs.Ytohkmmbmfhficaa.PT
