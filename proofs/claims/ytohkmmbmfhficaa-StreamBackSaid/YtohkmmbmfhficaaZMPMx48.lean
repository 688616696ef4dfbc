/- Words and walks that this claim names, of those that the kit's print and programs of this workplace have printed. -/
import Derived.Test.YtohkmmbmfhficaaZMCz
import Derived.Test.YtohkmmbmfhficaaZMPMx5
import Derived.Test.YtohkmmbmfhficaaZMPMx45
import Derived.Test.YtohkmmbmfhficaaZMPMx47
namespace Go.Proofs.Ytohkmmbmfhficaa.PM
open Go.Proofs.Ytohkmmbmfhficaa Go.RowKit Go.Proofs.YtohkmmbmfhficaaW.PrintWords Go.Proofs.YtohkmmbmfhficaaW.PrintLast Go.Proofs.YtohkmmbmfhficaaW.PrintMore
attribute [local go_sem] max2_int min2_int max_two min_two max_three min_three max_four min_four
set_option linter.unusedVariables false
set_option linter.unusedSimpArgs false
theorem stream_zeros (A : Option Addr) (c : Nat) (d : List Int) (r : Bool) (w : World) (hr : Kd.C (Kd.int .u8) w A d.length d) (h32 : 32 ≤ d.length) (hc : d.length ≤ c) (h : Pl.zeroB (d.take 32) = r) : Calls Try.prog 57 #[.slice A 32 c] w fun e w' => e = .returned (.bool r) ∧ Drawn0 w w' := by
 have ht : (d.take 32).length = 32 := by rw [List.length_take]; omega
 have h1 := Kd.C_take (m := 32) hr h32
 have := zeros_Is.calls A c (d.take 32) r w h1 (by omega) (by rw [zeros_Is.tells (by omega), h])
 rwa [ht] at this
mutual
def stream_Check_p.j0 : Nat → Bool → Int → Int → Int → List (S36) → Option (Bool)
 | 0, _, _, _, _, _ => none
 | k + 1, x42, x206000, x206001, x206002, x206003 => if x42 = true then (some false) else (stream_Check_p.l0 k 0 x206003 (x206003.length : Int) 0 x206000 x206001 x206002 x206003)
def stream_Check_p.l0 : Nat → Int → List (S36) → Int → Int → Int → Int → Int → List (S36) → Option (Bool)
 | 0, _, _, _, _, _, _, _, _ => none
 | k + 1, x3, x44, x45, x46, x206000, x206001, x206002, x206003 => if x46 < x45 then (if 0 ≤ x46 then (if x46 < (x44.length : Int) then ((extent_Check.f ((rd_T36 x44 x46).f0) ((rd_T36 x44 x46).f1) ((rd_T36 x44 x46).f2) ((rd_T36 x44 x46).f3) ((rd_T36 x44 x46).f4)).bind fun t208 => (if t208 = true then (if ((rd_T36 x44 x46).f3) = 0 then (if ((rd_T36 x44 x46).f0) < x3 then (stream_Check_p.j2 k x44 x45 x46 true x206000 x206001 x206002 x206003 ((rd_T36 x44 x46).f0) ((rd_T36 x44 x46).f1) ((rd_T36 x44 x46).f2) ((rd_T36 x44 x46).f3) ((rd_T36 x44 x46).f4)) else (if x46 > 0 then (if 0 ≤ (wrap64 (x46 - 1)) then (if (wrap64 (x46 - 1)) < (x206003.length : Int) then ((extent_Joins.f ((rd_T36 x206003 (wrap64 (x46 - 1))).f0) ((rd_T36 x206003 (wrap64 (x46 - 1))).f1) ((rd_T36 x206003 (wrap64 (x46 - 1))).f2) ((rd_T36 x206003 (wrap64 (x46 - 1))).f3) ((rd_T36 x206003 (wrap64 (x46 - 1))).f4) ((rd_T36 x44 x46).f0) ((rd_T36 x44 x46).f1) ((rd_T36 x44 x46).f2) ((rd_T36 x44 x46).f3) ((rd_T36 x44 x46).f4)).bind fun t210 => (stream_Check_p.j2 k x44 x45 x46 t210 x206000 x206001 x206002 x206003 ((rd_T36 x44 x46).f0) ((rd_T36 x44 x46).f1) ((rd_T36 x44 x46).f2) ((rd_T36 x44 x46).f3) ((rd_T36 x44 x46).f4))) else (none)) else (none)) else (stream_Check_p.j2 k x44 x45 x46 false x206000 x206001 x206002 x206003 ((rd_T36 x44 x46).f0) ((rd_T36 x44 x46).f1) ((rd_T36 x44 x46).f2) ((rd_T36 x44 x46).f3) ((rd_T36 x44 x46).f4)))) else (stream_Check_p.j2 k x44 x45 x46 true x206000 x206001 x206002 x206003 ((rd_T36 x44 x46).f0) ((rd_T36 x44 x46).f1) ((rd_T36 x44 x46).f2) ((rd_T36 x44 x46).f3) ((rd_T36 x44 x46).f4))) else (stream_Check_p.j2 k x44 x45 x46 true x206000 x206001 x206002 x206003 ((rd_T36 x44 x46).f0) ((rd_T36 x44 x46).f1) ((rd_T36 x44 x46).f2) ((rd_T36 x44 x46).f3) ((rd_T36 x44 x46).f4)))) else (none)) else (none)) else (some (decide (x3 ≤ x206000)))
def stream_Check_p.j2 : Nat → List (S36) → Int → Int → Bool → Int → Int → Int → List (S36) → Int → Int → Int → Int → List Int → Option (Bool)
 | 0, _, _, _, _, _, _, _, _, _, _, _, _, _ => none
 | k + 1, x44, x45, x46, x78, x206000, x206001, x206002, x206003, x208000, x208001, x208002, x208003, x208004 => if x78 = true then (some false) else ((stream_Zeros.f x208004).bind fun t211 => (if t211 = true then (some false) else (stream_Check_p.l0 k (wrap64 (x208000 + x208001)) x44 x45 (wrap64 (x46 + 1)) x206000 x206001 x206002 x206003)))
end
def stream_Check_p.f (k : Nat) (a0_0 : Int) (a0_1 : Int) (a0_2 : Int) (l0_3 : List (S36)) : Option (Bool) := if a0_0 < 1 then (stream_Check_p.j0 k true a0_0 a0_1 a0_2 l0_3) else (if a0_0 > 64 then (stream_Check_p.j0 k true a0_0 a0_1 a0_2 l0_3) else (if a0_2 < 1 then (stream_Check_p.j0 k true a0_0 a0_1 a0_2 l0_3) else (if a0_2 > 2147483647 then (stream_Check_p.j0 k true a0_0 a0_1 a0_2 l0_3) else (if a0_1 < 0 then (stream_Check_p.j0 k true a0_0 a0_1 a0_2 l0_3) else (if a0_1 ≥ a0_2 then (stream_Check_p.j0 k true a0_0 a0_1 a0_2 l0_3) else (stream_Check_p.j0 k (decide ((l0_3.length : Int) > 64)) a0_0 a0_1 a0_2 l0_3))))))
def stream_Check_p.T7 : Bool × List (List Nat × List Nat) := (true, [([], []), ([0], [0]), ([1], [1]), ([2, 1], [2]), ([3], [3]), ([4, 3], [3, 4]), ([5, 3], [3, 5]), ([3, 6], [3, 6]), ([7, 3], [7]), ([8], [8]), ([9, 8], [8, 9]), ([8], [8]), ([10, 11, 8], [8, 10, 11]), ([8, 12], [8, 12]), ([13, 8], [13]), ([14], [14]), ([15, 14], [14, 15]), ([16, 14, 14], [14, 16]), ([17], [17]), ([18, 17], [17, 18]), ([17], [17]), ([20, 17], [17, 20]), ([19, 21, 17], [17, 19, 21]), ([22, 17], [17, 22]), ([17], [17]), ([23, 24, 17, 17], [17, 23, 24]), ([17, 25, 14], [14, 17, 25]), ([14, 26], [14, 26])])
def stream_Check_p.B7 : List Nat := [0, 1, 3, 7, 15, 31, 63, 127, 255, 511, 1023, 511, 4095, 8191, 16383, 32767, 65535, 131071, 262143, 524287, 262143, 1310719, 4194303, 8388607, 262143, 33554431, 67108863, 134217727]
theorem stream_Check_p.tab7 : rtab .any (opsOf Try.f31 7) = stream_Check_p.T7 := by kernel_rfl
theorem stream_Check_p.bits7 : waitsOk stream_Check_p.T7.2 stream_Check_p.B7 = true := by kernel_rfl
set_option maxHeartbeats 8000000 in
set_option maxRecDepth 100000 in
theorem stream_Check_p.calls (k : Nat) (a0_0 : Int) (a0_1 : Int) (a0_2 : Int) (A0_3 : Option Addr) (c0_3 : Nat) (l0_3 : List (S36)) (r : Bool) (w : World) (hr0_3 : Kd.C k36 w A0_3 l0_3.length l0_3) (hc0_3 : l0_3.length ≤ c0_3) (h : stream_Check_p.f k a0_0 a0_1 a0_2 l0_3 = some r) :
  Calls Try.prog 31 #[.agg #[.int .i64 a0_0, .int .i64 a0_1, .int .i64 a0_2, .slice A0_3 l0_3.length c0_3]] w fun e w' => e = .returned (.bool r) ∧ Below w.heap.size w w' := by
 have hu24 := Try.underlying24
 have hu36 := Try.underlying36
 have HR0_3 := Aside0.mk hr0_3
 have HC0_3 := Aside0.mk hc0_3
 clear hr0_3 hc0_3
 have HB := Aside0.mk (Below.refl w.heap.size w)
 have H : (if a0_0 < 1 then (stream_Check_p.j0 k true a0_0 a0_1 a0_2 l0_3) else (if a0_0 > 64 then (stream_Check_p.j0 k true a0_0 a0_1 a0_2 l0_3) else (if a0_2 < 1 then (stream_Check_p.j0 k true a0_0 a0_1 a0_2 l0_3) else (if a0_2 > 2147483647 then (stream_Check_p.j0 k true a0_0 a0_1 a0_2 l0_3) else (if a0_1 < 0 then (stream_Check_p.j0 k true a0_0 a0_1 a0_2 l0_3) else (if a0_1 ≥ a0_2 then (stream_Check_p.j0 k true a0_0 a0_1 a0_2 l0_3) else (stream_Check_p.j0 k (decide ((l0_3.length : Int) > 64)) a0_0 a0_1 a0_2 l0_3))))))) = some r := h
 clear h
 have HC2 := Aside0.mk H
 clear H
 go_enter Try.func31, Try.ntmps31
 go_upto_region 1 with (first | ((with_reducible refine gate_dst (N := 1) rfl ?_); (try (refine gate_guard (by rfl) ?_; dsimp only)); refine Cz.bx (N := 1) #[.int .i64 a0_0, .int .i64 a0_1, .int .i64 a0_2, .slice A0_3 l0_3.length c0_3] 24 ?_; intro gb205 hg w3 hbox hb; have BK205 := Aside0.mk (hbox); have GW205 := Aside0.mk ((Cz.gs hg : w.heap.size ≤ gb205)); have GE205 := GW205; replace HB := Cz.bs (w := w) hb; clear hb hbox hg))
 (try simp only [Act.put, Kx.sb, Kx.sz, Kx.ss])
 go_cut [42] (fun v42 wc => ∃ (kq : Nat) (x42_1 : Bool), v42 = .bool x42_1 ∧ Aside0 (stream_Check_p.j0 kq x42_1 a0_0 a0_1 a0_2 l0_3 = some r) ∧ Aside0 (kq ≤ k) ∧ Aside0 (wc.heap[gb205]? = some (.cells #[.int .i64 a0_0, .int .i64 a0_1, .int .i64 a0_2, (.slice A0_3 l0_3.length c0_3)] 24 (0, 0))) ∧ Aside0 (Below w.heap.size w wc))
 case first =>
  have H := HC2.out
  clear HC2
  by_cases c4 : a0_0 < 1
  ·rw [if_pos c4] at H
   have c4b0 : decide (a0_0 < 1) = true := decide_eq_true c4
   clear c4
   (first | rw [c4b0] | (simp only [i64_w, i32_w]; rw [c4b0]) | skip)
   have H' := Aside0.mk H
   clear H
   obtain ⟨z5_0, z5_1, z5_2, z5_3, y5_0, y5_1, y5_2, y5_3⟩ := Cz.d4 BK205
   go_wp2
   go_meet
   case rel => exact ⟨_, (true), Cz.si, H', ⟨by first | omega | exact Nat.le_refl _⟩, ⟨by (with_reducible repeat (first | refine blk_drewN ?_ _ | refine blk_drew ?_ | refine blk_alloc ?_ _)); exact BK205.out⟩, ⟨Cz.bl (w := w)⟩⟩
  ·rw [if_neg c4] at H
   have c4b0 : decide (a0_0 < 1) = false := decide_eq_false c4
   clear c4
   (first | rw [c4b0] | (simp only [i64_w, i32_w]; rw [c4b0]) | skip)
   by_cases c6 : a0_0 > 64
   ·rw [if_pos c6] at H
    have c6b0 : decide (64 < a0_0) = true := decide_eq_true c6
    clear c6
    have H' := Aside0.mk H
    clear H
    obtain ⟨z7_0, z7_1, z7_2, z7_3, y7_0, y7_1, y7_2, y7_3⟩ := Cz.d4 BK205
    go_wp2
    go_meet
    case rel => exact ⟨_, (true), Cz.si, H', ⟨by first | omega | exact Nat.le_refl _⟩, ⟨by (with_reducible repeat (first | refine blk_drewN ?_ _ | refine blk_drew ?_ | refine blk_alloc ?_ _)); exact BK205.out⟩, ⟨Cz.bl (w := w)⟩⟩
   ·rw [if_neg c6] at H
    have c6b0 : decide (64 < a0_0) = false := decide_eq_false c6
    clear c6
    by_cases c8 : a0_2 < 1
    ·rw [if_pos c8] at H
     have c8b0 : decide (a0_2 < 1) = true := decide_eq_true c8
     clear c8
     have H' := Aside0.mk H
     clear H
     obtain ⟨z9_0, z9_1, z9_2, z9_3, y9_0, y9_1, y9_2, y9_3⟩ := Cz.d4 BK205
     go_wp2
     go_meet
     case rel => exact ⟨_, (true), Cz.si, H', ⟨by first | omega | exact Nat.le_refl _⟩, ⟨by (with_reducible repeat (first | refine blk_drewN ?_ _ | refine blk_drew ?_ | refine blk_alloc ?_ _)); exact BK205.out⟩, ⟨Cz.bl (w := w)⟩⟩
    ·rw [if_neg c8] at H
     have c8b0 : decide (a0_2 < 1) = false := decide_eq_false c8
     clear c8
     by_cases c10 : a0_2 > 2147483647
     ·rw [if_pos c10] at H
      have c10b0 : decide (2147483647 < a0_2) = true := decide_eq_true c10
      clear c10
      have H' := Aside0.mk H
      clear H
      obtain ⟨z11_0, z11_1, z11_2, z11_3, y11_0, y11_1, y11_2, y11_3⟩ := Cz.d4 BK205
      go_wp2
      go_meet
      case rel => exact ⟨_, (true), Cz.si, H', ⟨by first | omega | exact Nat.le_refl _⟩, ⟨by (with_reducible repeat (first | refine blk_drewN ?_ _ | refine blk_drew ?_ | refine blk_alloc ?_ _)); exact BK205.out⟩, ⟨Cz.bl (w := w)⟩⟩
     ·rw [if_neg c10] at H
      have c10b0 : decide (2147483647 < a0_2) = false := decide_eq_false c10
      clear c10
      by_cases c12 : a0_1 < 0
      ·rw [if_pos c12] at H
       have c12b0 : decide (a0_1 < 0) = true := decide_eq_true c12
       clear c12
       have H' := Aside0.mk H
       clear H
       obtain ⟨z13_0, z13_1, z13_2, z13_3, y13_0, y13_1, y13_2, y13_3⟩ := Cz.d4 BK205
       go_wp2
       go_meet
       case rel => exact ⟨_, (true), Cz.si, H', ⟨by first | omega | exact Nat.le_refl _⟩, ⟨by (with_reducible repeat (first | refine blk_drewN ?_ _ | refine blk_drew ?_ | refine blk_alloc ?_ _)); exact BK205.out⟩, ⟨Cz.bl (w := w)⟩⟩
      ·rw [if_neg c12] at H
       have c12b0 : decide (a0_1 < 0) = false := decide_eq_false c12
       clear c12
       by_cases c14 : a0_1 ≥ a0_2
       ·rw [if_pos c14] at H
        have c14b0 : decide (a0_2 ≤ a0_1) = true := decide_eq_true c14
        clear c14
        have H' := Aside0.mk H
        clear H
        obtain ⟨z15_0, z15_1, z15_2, z15_3, y15_0, y15_1, y15_2, y15_3⟩ := Cz.d4 BK205
        go_wp2
        go_meet
        case rel => exact ⟨_, (true), Cz.si, H', ⟨by first | omega | exact Nat.le_refl _⟩, ⟨by (with_reducible repeat (first | refine blk_drewN ?_ _ | refine blk_drew ?_ | refine blk_alloc ?_ _)); exact BK205.out⟩, ⟨Cz.bl (w := w)⟩⟩
       ·rw [if_neg c14] at H
        have c14b0 : decide (a0_2 ≤ a0_1) = false := decide_eq_false c14
        clear c14
        have H' := Aside0.mk H
        clear H
        obtain ⟨z16_0, z16_1, z16_2, z16_3, y16_0, y16_1, y16_2, y16_3⟩ := Cz.d4 BK205
        go_wp2
        go_meet
        case rel => exact ⟨_, (decide ((l0_3.length : Int) > 64)), Cz.si, H', ⟨by first | omega | exact Nat.le_refl _⟩, ⟨by (with_reducible repeat (first | refine blk_drewN ?_ _ | refine blk_drew ?_ | refine blk_alloc ?_ _)); exact BK205.out⟩, ⟨Cz.bl (w := w)⟩⟩
 case rest =>
  clear HC2
  try clear c1
  try clear p2
  try clear c3
  try clear c4
  try clear c4b0
  try clear c6
  try clear c6b0
  try clear c8
  try clear c8b0
  try clear c10
  try clear c10b0
  try clear c12
  try clear c12b0
  try clear c14
  try clear c14b0
  try clear z11_0 z11_1 z11_2 z11_3 y11_0 y11_1 y11_2 y11_3
  try clear z13_0 z13_1 z13_2 z13_3 y13_0 y13_1 y13_2 y13_3
  try clear z15_0 z15_1 z15_2 z15_3 y15_0 y15_1 y15_2 y15_3
  try clear z16_0 z16_1 z16_2 z16_3 y16_0 y16_1 y16_2 y16_3
  try clear z5_0 z5_1 z5_2 z5_3 y5_0 y5_1 y5_2 y5_3
  try clear z7_0 z7_1 z7_2 z7_3 y7_0 y7_1 y7_2 y7_3
  try clear z9_0 z9_1 z9_2 z9_3 y9_0 y9_1 y9_2 y9_3
  obtain ⟨kq, x42_1, rfl, HA, HJ1, BK205, HB⟩ := hcut
  cases kq with
  | zero => exact absurd HA.out (by simp [stream_Check_p.j0])
  | succ kj1 =>
   have H := HA.out
   clear HA
   simp only [stream_Check_p.j0] at H
   by_cases c17 : x42_1 = true
   ·subst c17
    rw [if_pos rfl] at H
    obtain rfl := Option.some.inj H
    go_wp2
    go_ret
    exact ⟨Cz.er, Cz.bl (w := w)⟩
   ·replace c17 := Bool.eq_false_iff.mpr c17
    subst c17
    rw [if_neg (show ¬ (false = true) by decide)] at H
    have H' := Aside0.mk H
    clear H
    obtain ⟨z18_0, z18_1, z18_2, z18_3, y18_0, y18_1, y18_2, y18_3⟩ := Cz.d4 BK205
    go_wp2
    go_loopg [3, 46] kj1 (fun kq v3 v46 w' => ∃ (x3_2 : Int) (x46_2 : Int), v3 = .int .i64 x3_2 ∧ v46 = .int .i64 x46_2 ∧ Aside0 (stream_Check_p.l0 kq x3_2 l0_3 (l0_3.length : Int) x46_2 a0_0 a0_1 a0_2 l0_3 = some r) ∧ Aside0 (kq ≤ kj1) ∧ Aside0 (w'.heap[gb205]? = some (.cells #[.int .i64 a0_0, .int .i64 a0_1, .int .i64 a0_2, (.slice A0_3 l0_3.length c0_3)] 24 (0, 0))) ∧ Aside0 (Below w.heap.size w w'))
    case atStart => exact ⟨(0), (0), Cz.si, Cz.si, H', ⟨Nat.le_refl _⟩, ⟨by (with_reducible repeat (first | refine blk_drewN ?_ _ | refine blk_drew ?_ | refine blk_alloc ?_ _)); exact BK205.out⟩, ⟨Cz.bl (w := w)⟩⟩
    case round =>
     clear H'
     try clear c1
     try clear p2 p2
     try clear c3
     try clear c4
     try clear c4b0
     try clear c6
     try clear c6b0
     try clear c8
     try clear c8b0
     try clear c10
     try clear c10b0
     try clear c12
     try clear c12b0
     try clear c14
     try clear c14b0
     try clear c17
     try clear z11_0 z11_1 z11_2 z11_3 y11_0 y11_1 y11_2 y11_3
     try clear z13_0 z13_1 z13_2 z13_3 y13_0 y13_1 y13_2 y13_3
     try clear z15_0 z15_1 z15_2 z15_3 y15_0 y15_1 y15_2 y15_3
     try clear z16_0 z16_1 z16_2 z16_3 y16_0 y16_1 y16_2 y16_3
     try clear z18_0 z18_1 z18_2 z18_3 y18_0 y18_1 y18_2 y18_3
     try clear z5_0 z5_1 z5_2 z5_3 y5_0 y5_1 y5_2 y5_3
     try clear z7_0 z7_1 z7_2 z7_3 y7_0 y7_1 y7_2 y7_3
     try clear z9_0 z9_1 z9_2 z9_3 y9_0 y9_1 y9_2 y9_3
     obtain ⟨x3_2, x46_2, rfl, rfl, HA, HK2, BK205, HB⟩ := hrel
     cases gk with
     | zero => exact absurd HA.out (by simp [stream_Check_p.l0])
     | succ k2 =>
      have H := HA.out
      clear HA
      simp only [stream_Check_p.l0] at H
      by_cases c19 : x46_2 < (l0_3.length : Int)
      ·rw [if_pos c19] at H
       have c19b0 : decide (x46_2 < (l0_3.length : Int)) = true := decide_eq_true c19
       clear c19
       by_cases c20 : 0 ≤ x46_2
       ·rw [if_pos c20] at H
        have c20b0 : decide (0 ≤ x46_2) = true := decide_eq_true c20
        clear c20
        by_cases c21 : x46_2 < (l0_3.length : Int)
        ·rw [if_pos c21] at H
         have c21b0 : decide (x46_2 < (l0_3.length : Int)) = true := decide_eq_true c21
         clear c21
         have HC22 := Aside0.mk H
         clear H
         have p206 : 0 ≤ (x46_2 : Int) := of_decide_eq_true (by first | (with_reducible assumption) | assumption)
         have q206 : x46_2 < (l0_3.length : Int) := of_decide_eq_true (by first | (with_reducible assumption) | assumption)
         obtain ⟨ad206, A206_4, c206_4, e206, hx206_0, hx206_1, hx206_2, hx206_3, hx206_4, hl206_4, hi206_4⟩ := at_T36 HR0_3.out x46_2 p206 q206
         cases e206
         replace hx206_0 := (HB.out.cell (World.block_lt_of_cell? w _ hx206_0)).trans hx206_0
         replace hx206_1 := (HB.out.cell (World.block_lt_of_cell? w _ hx206_1)).trans hx206_1
         replace hx206_2 := (HB.out.cell (World.block_lt_of_cell? w _ hx206_2)).trans hx206_2
         replace hx206_3 := (HB.out.cell (World.block_lt_of_cell? w _ hx206_3)).trans hx206_3
         replace hx206_4 := (HB.out.cell (World.block_lt_of_cell? w _ hx206_4)).trans hx206_4
         have HR206_4 := Aside0.mk hi206_4
         have HC206_4 := Aside0.mk hl206_4
         clear hi206_4 hl206_4
         replace p206 := eq_true p206
         replace q206 := eq_true q206
         go_upto_region 7 with (first | ((with_reducible refine gate_dst (N := 5) rfl ?_); (try (refine gate_guard (by rfl) ?_; dsimp only)); refine Cz.bx (N := 5) #[.int .i64 0, .int .i64 0, .int .i64 0, .int .i64 0, .slice none 0 0] 36 ?_; intro gb207 hg w23 hbox hb; have BK207 := Aside0.mk (hbox); have GW207 := Aside0.mk ((Cz.gs hg : w.heap.size ≤ gb207)); have GE207 := GW207; have NB205_207 := Aside0.mk ((Cz.nl BK205 hg : gb205 ≠ gb207)); have NB207_205 := Aside0.mk ((Cz.nr BK205 hg : gb207 ≠ gb205)); replace BK205 := Cz.bk BK205 hb; replace HB := Cz.bs (w := w) hb; clear hb hbox hg; have hnb24 := NB207_205.out; have hnc24 := NB205_207.out; obtain ⟨z25_0, z25_1, z25_2, z25_3, z25_4, y25_0, y25_1, y25_2, y25_3, y25_4⟩ := Cz.d5 BK207))
         (try simp only [Act.put, Kx.sb, Kx.sz, Kx.ss])
         go_cut [78] (fun v78 wc => ∃ (kq : Nat) (x78_21 : Bool), v78 = .bool x78_21 ∧ Aside0 (stream_Check_p.j2 kq l0_3 (l0_3.length : Int) x46_2 x78_21 a0_0 a0_1 a0_2 l0_3 ((rd_T36 l0_3 x46_2).f0) ((rd_T36 l0_3 x46_2).f1) ((rd_T36 l0_3 x46_2).f2) ((rd_T36 l0_3 x46_2).f3) ((rd_T36 l0_3 x46_2).f4) = some r) ∧ Aside0 (kq ≤ k2) ∧ Aside0 (wc.heap[gb205]? = some (.cells #[.int .i64 a0_0, .int .i64 a0_1, .int .i64 a0_2, (.slice (some ad206) l0_3.length c0_3)] 24 (0, 0))) ∧ Aside0 (wc.heap[gb207]? = some (.cells #[.int .i64 ((rd_T36 l0_3 x46_2).f0), .int .i64 ((rd_T36 l0_3 x46_2).f1), .int .i64 ((rd_T36 l0_3 x46_2).f2), .int .i64 ((rd_T36 l0_3 x46_2).f3), (.slice A206_4 ((rd_T36 l0_3 x46_2).f4).length c206_4)] 36 (0, 0))) ∧ Aside0 (Below w.heap.size w wc))
         case first =>
          have H := HC22.out
          clear HC22
          replace H := Option.bind_eq_some_iff.mp H
          obtain ⟨t208, A260, H⟩ := H
          (try dsimp only at H)
          have A26 := Aside0.mk A260
          clear A260
          by_cases c27 : t208 = true
          ·subst c27
           rw [if_pos rfl] at H
           by_cases c28 : ((rd_T36 l0_3 x46_2).f3) = 0
           ·rw [if_pos c28] at H
            have c28b0 : (((rd_T36 l0_3 x46_2).f3) == 0) = true := beq_iff_eq.mpr c28
            have c28b1 : (((rd_T36 l0_3 x46_2).f3) != 0) = false := bne_eq_false_iff_eq.mpr c28
            clear c28
            (first | rw [c28b0] | (simp only [i64_w, i32_w]; rw [c28b0]) | skip)
            by_cases c29 : ((rd_T36 l0_3 x46_2).f0) < x3_2
            ·rw [if_pos c29] at H
             have c29b0 : decide (((rd_T36 l0_3 x46_2).f0) < x3_2) = true := decide_eq_true c29
             clear c29
             have H' := Aside0.mk H
             clear H
             try go_wp2
             have n0_ : Aside0 ((((((w23.setCell ⟨gb207, 0, none⟩ (.int .i64 ((rd_T36 l0_3 x46_2).f0))).setCell ⟨gb207, 1, none⟩ (.int .i64 ((rd_T36 l0_3 x46_2).f1))).setCell ⟨gb207, 2, none⟩ (.int .i64 ((rd_T36 l0_3 x46_2).f2))).setCell ⟨gb207, 3, none⟩ (.int .i64 ((rd_T36 l0_3 x46_2).f3))).setCell ⟨gb207, 4, none⟩ (.slice A206_4 ((rd_T36 l0_3 x46_2).f4).length c206_4)).heap[gb205]? = some (.cells #[.int .i64 a0_0, .int .i64 a0_1, .int .i64 a0_2, .slice (some ad206) l0_3.length c0_3] 24 (0, 0))) := ⟨by (with_reducible repeat (first | refine blk_drewN ?_ _ | refine blk_drew ?_ | refine blk_alloc ?_ _)); refine blk_far ?_ NB205_207.out _; refine blk_far ?_ NB205_207.out _; refine blk_far ?_ NB205_207.out _; refine blk_far ?_ NB205_207.out _; refine blk_far ?_ NB205_207.out _; (with_reducible repeat (first | refine blk_drewN ?_ _ | refine blk_drew ?_ | refine blk_alloc ?_ _)); exact BK205.out⟩
             have n1_ : Aside0 ((((((w23.setCell ⟨gb207, 0, none⟩ (.int .i64 ((rd_T36 l0_3 x46_2).f0))).setCell ⟨gb207, 1, none⟩ (.int .i64 ((rd_T36 l0_3 x46_2).f1))).setCell ⟨gb207, 2, none⟩ (.int .i64 ((rd_T36 l0_3 x46_2).f2))).setCell ⟨gb207, 3, none⟩ (.int .i64 ((rd_T36 l0_3 x46_2).f3))).setCell ⟨gb207, 4, none⟩ (.slice A206_4 ((rd_T36 l0_3 x46_2).f4).length c206_4)).heap[gb207]? = some (.cells #[.int .i64 ((rd_T36 l0_3 x46_2).f0), .int .i64 ((rd_T36 l0_3 x46_2).f1), .int .i64 ((rd_T36 l0_3 x46_2).f2), .int .i64 ((rd_T36 l0_3 x46_2).f3), .slice A206_4 ((rd_T36 l0_3 x46_2).f4).length c206_4] 36 (0, 0))) := ⟨by (with_reducible repeat (first | refine blk_drewN ?_ _ | refine blk_drew ?_ | refine blk_alloc ?_ _)); apply Cz.a5; (with_reducible repeat (first | refine blk_drewN ?_ _ | refine blk_drew ?_ | refine blk_alloc ?_ _)); exact BK207.out⟩
             have n2_ : Aside0 (Below w.heap.size w (((((w23.setCell ⟨gb207, 0, none⟩ (.int .i64 ((rd_T36 l0_3 x46_2).f0))).setCell ⟨gb207, 1, none⟩ (.int .i64 ((rd_T36 l0_3 x46_2).f1))).setCell ⟨gb207, 2, none⟩ (.int .i64 ((rd_T36 l0_3 x46_2).f2))).setCell ⟨gb207, 3, none⟩ (.int .i64 ((rd_T36 l0_3 x46_2).f3))).setCell ⟨gb207, 4, none⟩ (.slice A206_4 ((rd_T36 l0_3 x46_2).f4).length c206_4))) := ⟨Cz.bl (w := w)⟩
             (try clear BK205)
             (try clear BK207)
             (try clear HB)
             generalize (((((w23.setCell ⟨gb207, 0, none⟩ (.int .i64 ((rd_T36 l0_3 x46_2).f0))).setCell ⟨gb207, 1, none⟩ (.int .i64 ((rd_T36 l0_3 x46_2).f1))).setCell ⟨gb207, 2, none⟩ (.int .i64 ((rd_T36 l0_3 x46_2).f2))).setCell ⟨gb207, 3, none⟩ (.int .i64 ((rd_T36 l0_3 x46_2).f3))).setCell ⟨gb207, 4, none⟩ (.slice A206_4 ((rd_T36 l0_3 x46_2).f4).length c206_4)) = w30 at n0_ n1_ n2_ ⊢
             have BK205 := n0_
             have BK207 := n1_
             have HB := n2_
             clear n0_ n1_ n2_
             replace BK205 := Aside0.mk (blk_drew BK205.out)
             replace BK207 := Aside0.mk (blk_drew BK207.out)
             replace HB := Aside0.mk (below_drew1 HB.out)
             refine start_ (n := 28) (S := fun w' => w'.cell? ⟨gb207, 0, none⟩ = some (.int .i64 ((rd_T36 l0_3 x46_2).f0)) ∧ w'.cell? ⟨gb207, 1, none⟩ = some (.int .i64 ((rd_T36 l0_3 x46_2).f1)) ∧ w'.cell? ⟨gb207, 2, none⟩ = some (.int .i64 ((rd_T36 l0_3 x46_2).f2)) ∧ w'.cell? ⟨gb207, 3, none⟩ = some (.int .i64 ((rd_T36 l0_3 x46_2).f3)) ∧ w'.cell? ⟨gb207, 4, none⟩ = some (.slice A206_4 ((rd_T36 l0_3 x46_2).f4).length c206_4)) (ds := []) #[false, false, false, false, false, false, false, false, false, false, false, false, false, false, false, false, false, false, false, false, false, false, false, false, false, false, false, false] (by kernel_rfl) rfl rfl ⟨(blk_cell BK207.out 0).trans rfl, (blk_cell BK207.out 1).trans rfl, (blk_cell BK207.out 2).trans rfl, (blk_cell BK207.out 3).trans rfl, (blk_cell BK207.out 4).trans rfl⟩ (fun hHeld => ?_); refine with_tabW stream_Check_p.tab7 stream_Check_p.bits7 (fun HT_ HW_ => ?_)
             generalize w30.drew = w31 at BK205 BK207 HB hHeld ⊢
             refine Cz.qT 0 51 HT_ HW_ hHeld ?_
             refine Cz.qO (N := some 52) 1 HT_ (fun K hK => ?_)
             refine Cz.gO Try.func55 #[.agg #[.int .i64 ((rd_T36 l0_3 x46_2).f0), .int .i64 ((rd_T36 l0_3 x46_2).f1), .int .i64 ((rd_T36 l0_3 x46_2).f2), .int .i64 ((rd_T36 l0_3 x46_2).f3), .slice A206_4 ((rd_T36 l0_3 x46_2).f4).length c206_4]] ?_
             with_reducible refine (extent_Check.calls ((rd_T36 l0_3 x46_2).f0) ((rd_T36 l0_3 x46_2).f1) ((rd_T36 l0_3 x46_2).f2) ((rd_T36 l0_3 x46_2).f3) _ _ ((rd_T36 l0_3 x46_2).f4) true _ ?side1 ?side2 A26.out).mono ?_
             (case side1 => exact Cz.cb HR206_4)
             (case side2 => exact HC206_4.out)
             rintro e w32 ⟨rfl, hb⟩
             refine ⟨_, rfl, ?_⟩
             replace BK205 := Cz.bk BK205 hb
             replace BK207 := Cz.bk BK207 hb
             replace HB := Cz.bs (w := w) hb
             (try clear hb)
             (try clear hb2)
             (try clear hk)
             (try clear hi)
             refine hK.out _ _ ⟨(blk_cell BK207.out 0).trans rfl, (blk_cell BK207.out 1).trans rfl, (blk_cell BK207.out 2).trans rfl, (blk_cell BK207.out 3).trans rfl, (blk_cell BK207.out 4).trans rfl⟩ (fun hHeld => ?_)
             clear hK K
             refine norm_ (a' := ?_) ?_ ?_
             rotate_left
             ·show Act.put _ (some 52) _ = _
              simp only [Act.put, Kx.sb, Kx.sz, Kx.ss, i64_w, i32_w]
              rfl
             refine Cz.qP 2 53 HT_ ?_
             refine Cz.qP 3 54 HT_ ?_
             refine Cz.qP 4 55 HT_ ?_
             refine Cz.qT 5 56 HT_ HW_ hHeld ?_
             refine Cz.qP 6 57 HT_ ?_
             refine Cz.qP 7 58 HT_ ?_
             refine Cz.qP 8 59 HT_ ?_
             refine Cz.qP 9 60 HT_ ?_
             refine Cz.qP 11 62 HT_ ?_
             refine Cz.qT 10 61 HT_ HW_ hHeld ?_
             refine Cz.qP 12 63 HT_ ?_
             refine Cz.qP 13 64 HT_ ?_
             refine Cz.qP 14 65 HT_ ?_
             refine Cz.qU 15 66 HT_ ?_
             refine Cz.qU 16 67 HT_ ?_
             refine Cz.qU 17 68 HT_ ?_
             refine Cz.qU 18 69 HT_ ?_
             refine Cz.qU 19 70 HT_ ?_
             refine Cz.qU 20 71 HT_ ?_
             refine Cz.qU 21 72 HT_ ?_
             refine Cz.qU 22 73 HT_ ?_
             refine Cz.qU 23 74 HT_ ?_
             refine Cz.qU 24 75 HT_ ?_
             refine Cz.qU 25 76 HT_ ?_
             refine Cz.qU 26 77 HT_ ?_
             refine Cz.qP 27 78 HT_ ?_
             refine done_ (done_of HT_.out (by kernel_rfl)) ?_
             try go_wp2
             go_meet
             case rel => exact ⟨_, (true), Cz.si, H', ⟨by have := HJ1.out; have := HK2.out; first | omega | exact Nat.le_refl _⟩, ⟨by (with_reducible repeat (first | refine blk_drewN ?_ _ | refine blk_drew ?_ | refine blk_alloc ?_ _)); exact BK205.out⟩, ⟨by (with_reducible repeat (first | refine blk_drewN ?_ _ | refine blk_drew ?_ | refine blk_alloc ?_ _)); exact BK207.out⟩, ⟨Cz.bl (w := w)⟩⟩
            ·rw [if_neg c29] at H
             have c29b0 : decide (((rd_T36 l0_3 x46_2).f0) < x3_2) = false := decide_eq_false c29
             clear c29
             by_cases c33 : x46_2 > 0
             ·rw [if_pos c33] at H
              have c33b0 : decide (0 < x46_2) = true := decide_eq_true c33
              clear c33
              obtain ⟨ji34, hji34⟩ : ∃ j_ : Int, (wrap64 (x46_2 - 1)) = j_ := ⟨_, rfl⟩
              replace H : (if 0 ≤ (ji34) then (if (ji34) < (l0_3.length : Int) then ((extent_Joins.f ((rd_T36 l0_3 (ji34)).f0) ((rd_T36 l0_3 (ji34)).f1) ((rd_T36 l0_3 (ji34)).f2) ((rd_T36 l0_3 (ji34)).f3) ((rd_T36 l0_3 (ji34)).f4) ((rd_T36 l0_3 x46_2).f0) ((rd_T36 l0_3 x46_2).f1) ((rd_T36 l0_3 x46_2).f2) ((rd_T36 l0_3 x46_2).f3) ((rd_T36 l0_3 x46_2).f4)).bind fun t210 => (stream_Check_p.j2 k2 l0_3 (l0_3.length : Int) x46_2 t210 a0_0 a0_1 a0_2 l0_3 ((rd_T36 l0_3 x46_2).f0) ((rd_T36 l0_3 x46_2).f1) ((rd_T36 l0_3 x46_2).f2) ((rd_T36 l0_3 x46_2).f3) ((rd_T36 l0_3 x46_2).f4))) else (none)) else (none)) = some r := by first | (rw [hji34] at H; exact H) | (simp only [hji34] at H ⊢; exact H)
              (try rw [hji34] at A26)
              have hji34w : (IntKind.i64.wrap (x46_2 - 1)) = ji34 := (i64_w _).trans hji34
              by_cases c35 : 0 ≤ (ji34)
              ·rw [if_pos c35] at H
               have c35b0 : decide (0 ≤ (ji34)) = true := decide_eq_true c35
               clear c35
               by_cases c36 : (ji34) < (l0_3.length : Int)
               ·rw [if_pos c36] at H
                have c36b0 : decide ((ji34) < (l0_3.length : Int)) = true := decide_eq_true c36
                clear c36
                replace H := Option.bind_eq_some_iff.mp H
                obtain ⟨t210, A370, H⟩ := H
                (try dsimp only at H)
                have A37 := Aside0.mk A370
                clear A370
                have H' := Aside0.mk H
                clear H
                try go_wp2
                have n0_ : Aside0 ((((((w23.setCell ⟨gb207, 0, none⟩ (.int .i64 ((rd_T36 l0_3 x46_2).f0))).setCell ⟨gb207, 1, none⟩ (.int .i64 ((rd_T36 l0_3 x46_2).f1))).setCell ⟨gb207, 2, none⟩ (.int .i64 ((rd_T36 l0_3 x46_2).f2))).setCell ⟨gb207, 3, none⟩ (.int .i64 ((rd_T36 l0_3 x46_2).f3))).setCell ⟨gb207, 4, none⟩ (.slice A206_4 ((rd_T36 l0_3 x46_2).f4).length c206_4)).heap[gb205]? = some (.cells #[.int .i64 a0_0, .int .i64 a0_1, .int .i64 a0_2, .slice (some ad206) l0_3.length c0_3] 24 (0, 0))) := ⟨by (with_reducible repeat (first | refine blk_drewN ?_ _ | refine blk_drew ?_ | refine blk_alloc ?_ _)); refine blk_far ?_ NB205_207.out _; refine blk_far ?_ NB205_207.out _; refine blk_far ?_ NB205_207.out _; refine blk_far ?_ NB205_207.out _; refine blk_far ?_ NB205_207.out _; (with_reducible repeat (first | refine blk_drewN ?_ _ | refine blk_drew ?_ | refine blk_alloc ?_ _)); exact BK205.out⟩
                have n1_ : Aside0 ((((((w23.setCell ⟨gb207, 0, none⟩ (.int .i64 ((rd_T36 l0_3 x46_2).f0))).setCell ⟨gb207, 1, none⟩ (.int .i64 ((rd_T36 l0_3 x46_2).f1))).setCell ⟨gb207, 2, none⟩ (.int .i64 ((rd_T36 l0_3 x46_2).f2))).setCell ⟨gb207, 3, none⟩ (.int .i64 ((rd_T36 l0_3 x46_2).f3))).setCell ⟨gb207, 4, none⟩ (.slice A206_4 ((rd_T36 l0_3 x46_2).f4).length c206_4)).heap[gb207]? = some (.cells #[.int .i64 ((rd_T36 l0_3 x46_2).f0), .int .i64 ((rd_T36 l0_3 x46_2).f1), .int .i64 ((rd_T36 l0_3 x46_2).f2), .int .i64 ((rd_T36 l0_3 x46_2).f3), .slice A206_4 ((rd_T36 l0_3 x46_2).f4).length c206_4] 36 (0, 0))) := ⟨by (with_reducible repeat (first | refine blk_drewN ?_ _ | refine blk_drew ?_ | refine blk_alloc ?_ _)); apply Cz.a5; (with_reducible repeat (first | refine blk_drewN ?_ _ | refine blk_drew ?_ | refine blk_alloc ?_ _)); exact BK207.out⟩
                have n2_ : Aside0 (Below w.heap.size w (((((w23.setCell ⟨gb207, 0, none⟩ (.int .i64 ((rd_T36 l0_3 x46_2).f0))).setCell ⟨gb207, 1, none⟩ (.int .i64 ((rd_T36 l0_3 x46_2).f1))).setCell ⟨gb207, 2, none⟩ (.int .i64 ((rd_T36 l0_3 x46_2).f2))).setCell ⟨gb207, 3, none⟩ (.int .i64 ((rd_T36 l0_3 x46_2).f3))).setCell ⟨gb207, 4, none⟩ (.slice A206_4 ((rd_T36 l0_3 x46_2).f4).length c206_4))) := ⟨Cz.bl (w := w)⟩
                (try clear BK205)
                (try clear BK207)
                (try clear HB)
                generalize (((((w23.setCell ⟨gb207, 0, none⟩ (.int .i64 ((rd_T36 l0_3 x46_2).f0))).setCell ⟨gb207, 1, none⟩ (.int .i64 ((rd_T36 l0_3 x46_2).f1))).setCell ⟨gb207, 2, none⟩ (.int .i64 ((rd_T36 l0_3 x46_2).f2))).setCell ⟨gb207, 3, none⟩ (.int .i64 ((rd_T36 l0_3 x46_2).f3))).setCell ⟨gb207, 4, none⟩ (.slice A206_4 ((rd_T36 l0_3 x46_2).f4).length c206_4)) = w38 at n0_ n1_ n2_ ⊢
                have BK205 := n0_
                have BK207 := n1_
                have HB := n2_
                clear n0_ n1_ n2_
                replace BK205 := Aside0.mk (blk_drew BK205.out)
                replace BK207 := Aside0.mk (blk_drew BK207.out)
                replace HB := Aside0.mk (below_drew1 HB.out)
                have p209 : 0 ≤ ((ji34) : Int) := of_decide_eq_true (by first | (with_reducible assumption) | assumption)
                have q209 : (ji34) < (l0_3.length : Int) := of_decide_eq_true (by first | (with_reducible assumption) | assumption)
                obtain ⟨ad209, A209_4, c209_4, e209, hx209_0, hx209_1, hx209_2, hx209_3, hx209_4, hl209_4, hi209_4⟩ := at_T36 HR0_3.out (ji34) p209 q209
                have hw209_4 := hx209_4
                have hw209_3 := hx209_3
                have hw209_2 := hx209_2
                have hw209_1 := hx209_1
                have hw209_0 := hx209_0
                obtain rfl : ad206 = ad209 := (by injection e209)
                replace hx209_0 := (HB.out.cell (World.block_lt_of_cell? w _ hx209_0)).trans hx209_0
                replace hx209_1 := (HB.out.cell (World.block_lt_of_cell? w _ hx209_1)).trans hx209_1
                replace hx209_2 := (HB.out.cell (World.block_lt_of_cell? w _ hx209_2)).trans hx209_2
                replace hx209_3 := (HB.out.cell (World.block_lt_of_cell? w _ hx209_3)).trans hx209_3
                replace hx209_4 := (HB.out.cell (World.block_lt_of_cell? w _ hx209_4)).trans hx209_4
                have HR209_4 := Aside0.mk hi209_4
                have HC209_4 := Aside0.mk hl209_4
                clear hi209_4 hl209_4
                replace p209 := eq_true p209
                replace q209 := eq_true q209
                refine start_ (n := 28) (S := fun w' => w'.cell? ⟨gb207, 0, none⟩ = some (.int .i64 ((rd_T36 l0_3 x46_2).f0)) ∧ w'.cell? ⟨gb207, 1, none⟩ = some (.int .i64 ((rd_T36 l0_3 x46_2).f1)) ∧ w'.cell? ⟨gb207, 2, none⟩ = some (.int .i64 ((rd_T36 l0_3 x46_2).f2)) ∧ w'.cell? ⟨gb207, 3, none⟩ = some (.int .i64 ((rd_T36 l0_3 x46_2).f3)) ∧ w'.cell? ⟨gb207, 4, none⟩ = some (.slice A206_4 ((rd_T36 l0_3 x46_2).f4).length c206_4) ∧ w'.cell? ⟨gb205, 0, none⟩ = some (.int .i64 a0_0) ∧ w'.cell? ⟨gb205, 1, none⟩ = some (.int .i64 a0_1) ∧ w'.cell? ⟨gb205, 2, none⟩ = some (.int .i64 a0_2) ∧ w'.cell? ⟨gb205, 3, none⟩ = some (.slice (some ad206) l0_3.length c0_3) ∧ w'.cell? (ad206.add (((ji34)).toNat * 5)) = some (.int .i64 ((rd_T36 l0_3 (ji34)).f0)) ∧ w'.cell? ⟨(ad206.add (((ji34)).toNat * 5)).block, (ad206.add (((ji34)).toNat * 5)).off + 1, none⟩ = some (.int .i64 ((rd_T36 l0_3 (ji34)).f1)) ∧ w'.cell? ⟨(ad206.add (((ji34)).toNat * 5)).block, (ad206.add (((ji34)).toNat * 5)).off + 2, none⟩ = some (.int .i64 ((rd_T36 l0_3 (ji34)).f2)) ∧ w'.cell? ⟨(ad206.add (((ji34)).toNat * 5)).block, (ad206.add (((ji34)).toNat * 5)).off + 3, none⟩ = some (.int .i64 ((rd_T36 l0_3 (ji34)).f3)) ∧ w'.cell? ⟨(ad206.add (((ji34)).toNat * 5)).block, (ad206.add (((ji34)).toNat * 5)).off + 4, none⟩ = some (.slice A209_4 ((rd_T36 l0_3 (ji34)).f4).length c209_4)) (ds := []) #[false, false, false, false, false, false, false, false, false, false, false, false, false, false, false, false, false, false, false, false, false, false, false, false, false, false, false, false] (by kernel_rfl) rfl rfl ⟨(blk_cell BK207.out 0).trans rfl, (blk_cell BK207.out 1).trans rfl, (blk_cell BK207.out 2).trans rfl, (blk_cell BK207.out 3).trans rfl, (blk_cell BK207.out 4).trans rfl, (blk_cell BK205.out 0).trans rfl, (blk_cell BK205.out 1).trans rfl, (blk_cell BK205.out 2).trans rfl, (blk_cell BK205.out 3).trans rfl, ((HB.out.cell (World.block_lt_of_cell? w _ hw209_0)).trans hw209_0), ((HB.out.cell (World.block_lt_of_cell? w _ hw209_1)).trans hw209_1), ((HB.out.cell (World.block_lt_of_cell? w _ hw209_2)).trans hw209_2), ((HB.out.cell (World.block_lt_of_cell? w _ hw209_3)).trans hw209_3), ((HB.out.cell (World.block_lt_of_cell? w _ hw209_4)).trans hw209_4)⟩ (fun hHeld => ?_); refine with_tabW stream_Check_p.tab7 stream_Check_p.bits7 (fun HT_ HW_ => ?_)
                generalize w38.drew = w39 at BK205 BK207 HB HR209_4 hx209_0 hx209_1 hx209_2 hx209_3 hx209_4 hHeld ⊢
                refine Cz.qT 0 51 HT_ HW_ hHeld ?_
                refine Cz.qO (N := some 52) 1 HT_ (fun K hK => ?_)
                refine Cz.gO Try.func55 #[.agg #[.int .i64 ((rd_T36 l0_3 x46_2).f0), .int .i64 ((rd_T36 l0_3 x46_2).f1), .int .i64 ((rd_T36 l0_3 x46_2).f2), .int .i64 ((rd_T36 l0_3 x46_2).f3), .slice A206_4 ((rd_T36 l0_3 x46_2).f4).length c206_4]] ?_
                with_reducible refine (extent_Check.calls ((rd_T36 l0_3 x46_2).f0) ((rd_T36 l0_3 x46_2).f1) ((rd_T36 l0_3 x46_2).f2) ((rd_T36 l0_3 x46_2).f3) _ _ ((rd_T36 l0_3 x46_2).f4) true _ ?side1 ?side2 A26.out).mono ?_
                (case side1 => exact Cz.cb HR206_4)
                (case side2 => exact HC206_4.out)
                rintro e w40 ⟨rfl, hb⟩
                refine ⟨_, rfl, ?_⟩
                replace BK205 := Cz.bk BK205 hb
                replace BK207 := Cz.bk BK207 hb
                replace HB := Cz.bs (w := w) hb
                (try clear hb)
                (try clear hb2)
                (try clear hk)
                (try clear hi)
                refine hK.out _ _ ⟨(blk_cell BK207.out 0).trans rfl, (blk_cell BK207.out 1).trans rfl, (blk_cell BK207.out 2).trans rfl, (blk_cell BK207.out 3).trans rfl, (blk_cell BK207.out 4).trans rfl, (blk_cell BK205.out 0).trans rfl, (blk_cell BK205.out 1).trans rfl, (blk_cell BK205.out 2).trans rfl, (blk_cell BK205.out 3).trans rfl, ((HB.out.cell (World.block_lt_of_cell? w _ hw209_0)).trans hw209_0), ((HB.out.cell (World.block_lt_of_cell? w _ hw209_1)).trans hw209_1), ((HB.out.cell (World.block_lt_of_cell? w _ hw209_2)).trans hw209_2), ((HB.out.cell (World.block_lt_of_cell? w _ hw209_3)).trans hw209_3), ((HB.out.cell (World.block_lt_of_cell? w _ hw209_4)).trans hw209_4)⟩ (fun hHeld => ?_)
                clear hK K
                refine norm_ (a' := ?_) ?_ ?_
                rotate_left
                ·show Act.put _ (some 52) _ = _
                 simp only [Act.put, Kx.sb, Kx.sz, Kx.ss, i64_w, i32_w]
                 rfl
                refine Cz.qP 2 53 HT_ ?_
                refine Cz.qP 3 54 HT_ ?_
                refine Cz.qP 4 55 HT_ ?_
                refine Cz.qT 5 56 HT_ HW_ hHeld ?_
                refine Cz.qP 6 57 HT_ ?_
                refine Cz.qP 7 58 HT_ ?_
                refine Cz.qP 8 59 HT_ ?_
                refine Cz.qP 9 60 HT_ ?_
                refine Cz.qP 11 62 HT_ ?_
                refine Cz.qT 10 61 HT_ HW_ hHeld ?_
                refine Cz.qP 12 63 HT_ ?_
                refine Cz.qP 13 64 HT_ ?_
                refine Cz.qP 14 65 HT_ ?_
                refine Cz.qP 15 66 HT_ ?_
                refine Cz.qP 16 67 HT_ ?_
                refine Cz.qP 17 68 HT_ ?_
                refine Cz.qP 18 69 HT_ ?_
                refine Cz.qP 20 71 HT_ ?_
                refine Cz.qP 21 72 HT_ ?_
                refine Cz.qT 19 70 HT_ HW_ hHeld ?_
                refine Cz.qP 22 73 HT_ ?_
                refine Cz.qT 23 74 HT_ HW_ hHeld ?_
                refine Cz.qT 24 75 HT_ HW_ hHeld ?_
                refine Cz.qO (N := some 76) 25 HT_ (fun K hK => ?_)
                refine goes_ Try.func56 (by kernel_rfl) rfl #[.agg #[.int .i64 ((rd_T36 l0_3 (ji34)).f0), .int .i64 ((rd_T36 l0_3 (ji34)).f1), .int .i64 ((rd_T36 l0_3 (ji34)).f2), .int .i64 ((rd_T36 l0_3 (ji34)).f3), .slice A209_4 ((rd_T36 l0_3 (ji34)).f4).length c209_4], .agg #[.int .i64 ((rd_T36 l0_3 x46_2).f0), .int .i64 ((rd_T36 l0_3 x46_2).f1), .int .i64 ((rd_T36 l0_3 x46_2).f2), .int .i64 ((rd_T36 l0_3 x46_2).f3), .slice A206_4 ((rd_T36 l0_3 x46_2).f4).length c206_4]] (by rfl) rfl rfl (by (try simp only [List.map_toArray, List.map_cons, List.map_nil]); first | done | (simp only [hji34]; rfl) | rfl | (simp only [List.length_drop, List.length_take]; rfl)) ?_
                with_reducible refine (extent_Joins.calls ((rd_T36 l0_3 (ji34)).f0) ((rd_T36 l0_3 (ji34)).f1) ((rd_T36 l0_3 (ji34)).f2) ((rd_T36 l0_3 (ji34)).f3) _ _ ((rd_T36 l0_3 (ji34)).f4) ((rd_T36 l0_3 x46_2).f0) ((rd_T36 l0_3 x46_2).f1) ((rd_T36 l0_3 x46_2).f2) ((rd_T36 l0_3 x46_2).f3) _ _ ((rd_T36 l0_3 x46_2).f4) t210 _ ?side1 ?side2 ?side3 ?side4 A37.out).mono ?_
                (case side1 => exact Cz.cb HR209_4)
                (case side2 => exact HC209_4.out)
                (case side3 => exact Cz.cb HR206_4)
                (case side4 => exact HC206_4.out)
                rintro e w41 ⟨rfl, hb⟩
                refine ⟨_, rfl, ?_⟩
                replace BK205 := Cz.bk BK205 hb
                replace BK207 := Cz.bk BK207 hb
                replace HB := Cz.bs (w := w) hb
                (try clear hb)
                (try clear hb2)
                (try clear hk)
                (try clear hi)
                refine hK.out _ _ ⟨(blk_cell BK207.out 0).trans rfl, (blk_cell BK207.out 1).trans rfl, (blk_cell BK207.out 2).trans rfl, (blk_cell BK207.out 3).trans rfl, (blk_cell BK207.out 4).trans rfl, (blk_cell BK205.out 0).trans rfl, (blk_cell BK205.out 1).trans rfl, (blk_cell BK205.out 2).trans rfl, (blk_cell BK205.out 3).trans rfl, ((HB.out.cell (World.block_lt_of_cell? w _ hw209_0)).trans hw209_0), ((HB.out.cell (World.block_lt_of_cell? w _ hw209_1)).trans hw209_1), ((HB.out.cell (World.block_lt_of_cell? w _ hw209_2)).trans hw209_2), ((HB.out.cell (World.block_lt_of_cell? w _ hw209_3)).trans hw209_3), ((HB.out.cell (World.block_lt_of_cell? w _ hw209_4)).trans hw209_4)⟩ (fun hHeld => ?_)
                clear hK K
                refine norm_ (a' := ?_) ?_ ?_
                rotate_left
                ·show Act.put _ (some 76) _ = _
                 simp only [Act.put, Kx.sb, Kx.sz, Kx.ss, i64_w, i32_w]
                 rfl
                refine Cz.qP 26 77 HT_ ?_
                refine Cz.qP 27 78 HT_ ?_
                refine done_ (done_of HT_.out (by kernel_rfl)) ?_
                try go_wp2
                go_meet
                case rel => exact ⟨_, (t210), Cz.si, H', ⟨by have := HJ1.out; have := HK2.out; first | omega | exact Nat.le_refl _⟩, ⟨by (with_reducible repeat (first | refine blk_drewN ?_ _ | refine blk_drew ?_ | refine blk_alloc ?_ _)); exact BK205.out⟩, ⟨by (with_reducible repeat (first | refine blk_drewN ?_ _ | refine blk_drew ?_ | refine blk_alloc ?_ _)); exact BK207.out⟩, ⟨Cz.bl (w := w)⟩⟩
               ·rw [if_neg c36] at H
                exact absurd H (by simp)
              ·rw [if_neg c35] at H
               exact absurd H (by simp)
             ·rw [if_neg c33] at H
              have c33b0 : decide (0 < x46_2) = false := decide_eq_false c33
              clear c33
              have H' := Aside0.mk H
              clear H
              try go_wp2
              have n0_ : Aside0 ((((((w23.setCell ⟨gb207, 0, none⟩ (.int .i64 ((rd_T36 l0_3 x46_2).f0))).setCell ⟨gb207, 1, none⟩ (.int .i64 ((rd_T36 l0_3 x46_2).f1))).setCell ⟨gb207, 2, none⟩ (.int .i64 ((rd_T36 l0_3 x46_2).f2))).setCell ⟨gb207, 3, none⟩ (.int .i64 ((rd_T36 l0_3 x46_2).f3))).setCell ⟨gb207, 4, none⟩ (.slice A206_4 ((rd_T36 l0_3 x46_2).f4).length c206_4)).heap[gb205]? = some (.cells #[.int .i64 a0_0, .int .i64 a0_1, .int .i64 a0_2, .slice (some ad206) l0_3.length c0_3] 24 (0, 0))) := ⟨by (with_reducible repeat (first | refine blk_drewN ?_ _ | refine blk_drew ?_ | refine blk_alloc ?_ _)); refine blk_far ?_ NB205_207.out _; refine blk_far ?_ NB205_207.out _; refine blk_far ?_ NB205_207.out _; refine blk_far ?_ NB205_207.out _; refine blk_far ?_ NB205_207.out _; (with_reducible repeat (first | refine blk_drewN ?_ _ | refine blk_drew ?_ | refine blk_alloc ?_ _)); exact BK205.out⟩
              have n1_ : Aside0 ((((((w23.setCell ⟨gb207, 0, none⟩ (.int .i64 ((rd_T36 l0_3 x46_2).f0))).setCell ⟨gb207, 1, none⟩ (.int .i64 ((rd_T36 l0_3 x46_2).f1))).setCell ⟨gb207, 2, none⟩ (.int .i64 ((rd_T36 l0_3 x46_2).f2))).setCell ⟨gb207, 3, none⟩ (.int .i64 ((rd_T36 l0_3 x46_2).f3))).setCell ⟨gb207, 4, none⟩ (.slice A206_4 ((rd_T36 l0_3 x46_2).f4).length c206_4)).heap[gb207]? = some (.cells #[.int .i64 ((rd_T36 l0_3 x46_2).f0), .int .i64 ((rd_T36 l0_3 x46_2).f1), .int .i64 ((rd_T36 l0_3 x46_2).f2), .int .i64 ((rd_T36 l0_3 x46_2).f3), .slice A206_4 ((rd_T36 l0_3 x46_2).f4).length c206_4] 36 (0, 0))) := ⟨by (with_reducible repeat (first | refine blk_drewN ?_ _ | refine blk_drew ?_ | refine blk_alloc ?_ _)); apply Cz.a5; (with_reducible repeat (first | refine blk_drewN ?_ _ | refine blk_drew ?_ | refine blk_alloc ?_ _)); exact BK207.out⟩
              have n2_ : Aside0 (Below w.heap.size w (((((w23.setCell ⟨gb207, 0, none⟩ (.int .i64 ((rd_T36 l0_3 x46_2).f0))).setCell ⟨gb207, 1, none⟩ (.int .i64 ((rd_T36 l0_3 x46_2).f1))).setCell ⟨gb207, 2, none⟩ (.int .i64 ((rd_T36 l0_3 x46_2).f2))).setCell ⟨gb207, 3, none⟩ (.int .i64 ((rd_T36 l0_3 x46_2).f3))).setCell ⟨gb207, 4, none⟩ (.slice A206_4 ((rd_T36 l0_3 x46_2).f4).length c206_4))) := ⟨Cz.bl (w := w)⟩
              (try clear BK205)
              (try clear BK207)
              (try clear HB)
              generalize (((((w23.setCell ⟨gb207, 0, none⟩ (.int .i64 ((rd_T36 l0_3 x46_2).f0))).setCell ⟨gb207, 1, none⟩ (.int .i64 ((rd_T36 l0_3 x46_2).f1))).setCell ⟨gb207, 2, none⟩ (.int .i64 ((rd_T36 l0_3 x46_2).f2))).setCell ⟨gb207, 3, none⟩ (.int .i64 ((rd_T36 l0_3 x46_2).f3))).setCell ⟨gb207, 4, none⟩ (.slice A206_4 ((rd_T36 l0_3 x46_2).f4).length c206_4)) = w42 at n0_ n1_ n2_ ⊢
              have BK205 := n0_
              have BK207 := n1_
              have HB := n2_
              clear n0_ n1_ n2_
              replace BK205 := Aside0.mk (blk_drew BK205.out)
              replace BK207 := Aside0.mk (blk_drew BK207.out)
              replace HB := Aside0.mk (below_drew1 HB.out)
              refine start_ (n := 28) (S := fun w' => w'.cell? ⟨gb207, 0, none⟩ = some (.int .i64 ((rd_T36 l0_3 x46_2).f0)) ∧ w'.cell? ⟨gb207, 1, none⟩ = some (.int .i64 ((rd_T36 l0_3 x46_2).f1)) ∧ w'.cell? ⟨gb207, 2, none⟩ = some (.int .i64 ((rd_T36 l0_3 x46_2).f2)) ∧ w'.cell? ⟨gb207, 3, none⟩ = some (.int .i64 ((rd_T36 l0_3 x46_2).f3)) ∧ w'.cell? ⟨gb207, 4, none⟩ = some (.slice A206_4 ((rd_T36 l0_3 x46_2).f4).length c206_4)) (ds := []) #[false, false, false, false, false, false, false, false, false, false, false, false, false, false, false, false, false, false, false, false, false, false, false, false, false, false, false, false] (by kernel_rfl) rfl rfl ⟨(blk_cell BK207.out 0).trans rfl, (blk_cell BK207.out 1).trans rfl, (blk_cell BK207.out 2).trans rfl, (blk_cell BK207.out 3).trans rfl, (blk_cell BK207.out 4).trans rfl⟩ (fun hHeld => ?_); refine with_tabW stream_Check_p.tab7 stream_Check_p.bits7 (fun HT_ HW_ => ?_)
              generalize w42.drew = w43 at BK205 BK207 HB hHeld ⊢
              refine Cz.qT 0 51 HT_ HW_ hHeld ?_
              refine Cz.qO (N := some 52) 1 HT_ (fun K hK => ?_)
              refine Cz.gO Try.func55 #[.agg #[.int .i64 ((rd_T36 l0_3 x46_2).f0), .int .i64 ((rd_T36 l0_3 x46_2).f1), .int .i64 ((rd_T36 l0_3 x46_2).f2), .int .i64 ((rd_T36 l0_3 x46_2).f3), .slice A206_4 ((rd_T36 l0_3 x46_2).f4).length c206_4]] ?_
              with_reducible refine (extent_Check.calls ((rd_T36 l0_3 x46_2).f0) ((rd_T36 l0_3 x46_2).f1) ((rd_T36 l0_3 x46_2).f2) ((rd_T36 l0_3 x46_2).f3) _ _ ((rd_T36 l0_3 x46_2).f4) true _ ?side1 ?side2 A26.out).mono ?_
              (case side1 => exact Cz.cb HR206_4)
              (case side2 => exact HC206_4.out)
              rintro e w44 ⟨rfl, hb⟩
              refine ⟨_, rfl, ?_⟩
              replace BK205 := Cz.bk BK205 hb
              replace BK207 := Cz.bk BK207 hb
              replace HB := Cz.bs (w := w) hb
              (try clear hb)
              (try clear hb2)
              (try clear hk)
              (try clear hi)
              refine hK.out _ _ ⟨(blk_cell BK207.out 0).trans rfl, (blk_cell BK207.out 1).trans rfl, (blk_cell BK207.out 2).trans rfl, (blk_cell BK207.out 3).trans rfl, (blk_cell BK207.out 4).trans rfl⟩ (fun hHeld => ?_)
              clear hK K
              refine norm_ (a' := ?_) ?_ ?_
              rotate_left
              ·show Act.put _ (some 52) _ = _
               simp only [Act.put, Kx.sb, Kx.sz, Kx.ss, i64_w, i32_w]
               rfl
              refine Cz.qP 2 53 HT_ ?_
              refine Cz.qP 3 54 HT_ ?_
              refine Cz.qP 4 55 HT_ ?_
              refine Cz.qT 5 56 HT_ HW_ hHeld ?_
              refine Cz.qP 6 57 HT_ ?_
              refine Cz.qP 7 58 HT_ ?_
              refine Cz.qP 8 59 HT_ ?_
              refine Cz.qP 9 60 HT_ ?_
              refine Cz.qP 11 62 HT_ ?_
              refine Cz.qT 10 61 HT_ HW_ hHeld ?_
              refine Cz.qP 12 63 HT_ ?_
              refine Cz.qP 13 64 HT_ ?_
              refine Cz.qP 14 65 HT_ ?_
              refine Cz.qP 15 66 HT_ ?_
              refine Cz.qP 16 67 HT_ ?_
              refine Cz.qP 17 68 HT_ ?_
              refine Cz.qU 18 69 HT_ ?_
              refine Cz.qU 19 70 HT_ ?_
              refine Cz.qU 20 71 HT_ ?_
              refine Cz.qU 21 72 HT_ ?_
              refine Cz.qU 22 73 HT_ ?_
              refine Cz.qU 23 74 HT_ ?_
              refine Cz.qU 24 75 HT_ ?_
              refine Cz.qU 25 76 HT_ ?_
              refine Cz.qP 26 77 HT_ ?_
              refine Cz.qP 27 78 HT_ ?_
              refine done_ (done_of HT_.out (by kernel_rfl)) ?_
              try go_wp2
              go_meet
              case rel => exact ⟨_, (false), Cz.si, H', ⟨by have := HJ1.out; have := HK2.out; first | omega | exact Nat.le_refl _⟩, ⟨by (with_reducible repeat (first | refine blk_drewN ?_ _ | refine blk_drew ?_ | refine blk_alloc ?_ _)); exact BK205.out⟩, ⟨by (with_reducible repeat (first | refine blk_drewN ?_ _ | refine blk_drew ?_ | refine blk_alloc ?_ _)); exact BK207.out⟩, ⟨Cz.bl (w := w)⟩⟩
           ·rw [if_neg c28] at H
            have c28b0 : (((rd_T36 l0_3 x46_2).f3) == 0) = false := beq_eq_false_iff_ne.mpr c28
            have c28b1 : (((rd_T36 l0_3 x46_2).f3) != 0) = true := bne_iff_ne.mpr c28
            (first | rw [c28b0] | (simp only [i64_w, i32_w]; rw [c28b0]) | skip)
            have H' := Aside0.mk H
            clear H
            try go_wp2
            have n0_ : Aside0 ((((((w23.setCell ⟨gb207, 0, none⟩ (.int .i64 ((rd_T36 l0_3 x46_2).f0))).setCell ⟨gb207, 1, none⟩ (.int .i64 ((rd_T36 l0_3 x46_2).f1))).setCell ⟨gb207, 2, none⟩ (.int .i64 ((rd_T36 l0_3 x46_2).f2))).setCell ⟨gb207, 3, none⟩ (.int .i64 ((rd_T36 l0_3 x46_2).f3))).setCell ⟨gb207, 4, none⟩ (.slice A206_4 ((rd_T36 l0_3 x46_2).f4).length c206_4)).heap[gb205]? = some (.cells #[.int .i64 a0_0, .int .i64 a0_1, .int .i64 a0_2, .slice (some ad206) l0_3.length c0_3] 24 (0, 0))) := ⟨by (with_reducible repeat (first | refine blk_drewN ?_ _ | refine blk_drew ?_ | refine blk_alloc ?_ _)); refine blk_far ?_ NB205_207.out _; refine blk_far ?_ NB205_207.out _; refine blk_far ?_ NB205_207.out _; refine blk_far ?_ NB205_207.out _; refine blk_far ?_ NB205_207.out _; (with_reducible repeat (first | refine blk_drewN ?_ _ | refine blk_drew ?_ | refine blk_alloc ?_ _)); exact BK205.out⟩
            have n1_ : Aside0 ((((((w23.setCell ⟨gb207, 0, none⟩ (.int .i64 ((rd_T36 l0_3 x46_2).f0))).setCell ⟨gb207, 1, none⟩ (.int .i64 ((rd_T36 l0_3 x46_2).f1))).setCell ⟨gb207, 2, none⟩ (.int .i64 ((rd_T36 l0_3 x46_2).f2))).setCell ⟨gb207, 3, none⟩ (.int .i64 ((rd_T36 l0_3 x46_2).f3))).setCell ⟨gb207, 4, none⟩ (.slice A206_4 ((rd_T36 l0_3 x46_2).f4).length c206_4)).heap[gb207]? = some (.cells #[.int .i64 ((rd_T36 l0_3 x46_2).f0), .int .i64 ((rd_T36 l0_3 x46_2).f1), .int .i64 ((rd_T36 l0_3 x46_2).f2), .int .i64 ((rd_T36 l0_3 x46_2).f3), .slice A206_4 ((rd_T36 l0_3 x46_2).f4).length c206_4] 36 (0, 0))) := ⟨by (with_reducible repeat (first | refine blk_drewN ?_ _ | refine blk_drew ?_ | refine blk_alloc ?_ _)); apply Cz.a5; (with_reducible repeat (first | refine blk_drewN ?_ _ | refine blk_drew ?_ | refine blk_alloc ?_ _)); exact BK207.out⟩
            have n2_ : Aside0 (Below w.heap.size w (((((w23.setCell ⟨gb207, 0, none⟩ (.int .i64 ((rd_T36 l0_3 x46_2).f0))).setCell ⟨gb207, 1, none⟩ (.int .i64 ((rd_T36 l0_3 x46_2).f1))).setCell ⟨gb207, 2, none⟩ (.int .i64 ((rd_T36 l0_3 x46_2).f2))).setCell ⟨gb207, 3, none⟩ (.int .i64 ((rd_T36 l0_3 x46_2).f3))).setCell ⟨gb207, 4, none⟩ (.slice A206_4 ((rd_T36 l0_3 x46_2).f4).length c206_4))) := ⟨Cz.bl (w := w)⟩
            (try clear BK205)
            (try clear BK207)
            (try clear HB)
            generalize (((((w23.setCell ⟨gb207, 0, none⟩ (.int .i64 ((rd_T36 l0_3 x46_2).f0))).setCell ⟨gb207, 1, none⟩ (.int .i64 ((rd_T36 l0_3 x46_2).f1))).setCell ⟨gb207, 2, none⟩ (.int .i64 ((rd_T36 l0_3 x46_2).f2))).setCell ⟨gb207, 3, none⟩ (.int .i64 ((rd_T36 l0_3 x46_2).f3))).setCell ⟨gb207, 4, none⟩ (.slice A206_4 ((rd_T36 l0_3 x46_2).f4).length c206_4)) = w45 at n0_ n1_ n2_ ⊢
            have BK205 := n0_
            have BK207 := n1_
            have HB := n2_
            clear n0_ n1_ n2_
            replace BK205 := Aside0.mk (blk_drew BK205.out)
            replace BK207 := Aside0.mk (blk_drew BK207.out)
            replace HB := Aside0.mk (below_drew1 HB.out)
            refine start_ (n := 28) (S := fun w' => w'.cell? ⟨gb207, 0, none⟩ = some (.int .i64 ((rd_T36 l0_3 x46_2).f0)) ∧ w'.cell? ⟨gb207, 1, none⟩ = some (.int .i64 ((rd_T36 l0_3 x46_2).f1)) ∧ w'.cell? ⟨gb207, 2, none⟩ = some (.int .i64 ((rd_T36 l0_3 x46_2).f2)) ∧ w'.cell? ⟨gb207, 3, none⟩ = some (.int .i64 ((rd_T36 l0_3 x46_2).f3)) ∧ w'.cell? ⟨gb207, 4, none⟩ = some (.slice A206_4 ((rd_T36 l0_3 x46_2).f4).length c206_4)) (ds := []) #[false, false, false, false, false, false, false, false, false, false, false, false, false, false, false, false, false, false, false, false, false, false, false, false, false, false, false, false] (by kernel_rfl) rfl rfl ⟨(blk_cell BK207.out 0).trans rfl, (blk_cell BK207.out 1).trans rfl, (blk_cell BK207.out 2).trans rfl, (blk_cell BK207.out 3).trans rfl, (blk_cell BK207.out 4).trans rfl⟩ (fun hHeld => ?_); refine with_tabW stream_Check_p.tab7 stream_Check_p.bits7 (fun HT_ HW_ => ?_)
            generalize w45.drew = w46 at BK205 BK207 HB hHeld ⊢
            refine Cz.qT 0 51 HT_ HW_ hHeld ?_
            refine Cz.qO (N := some 52) 1 HT_ (fun K hK => ?_)
            refine Cz.gO Try.func55 #[.agg #[.int .i64 ((rd_T36 l0_3 x46_2).f0), .int .i64 ((rd_T36 l0_3 x46_2).f1), .int .i64 ((rd_T36 l0_3 x46_2).f2), .int .i64 ((rd_T36 l0_3 x46_2).f3), .slice A206_4 ((rd_T36 l0_3 x46_2).f4).length c206_4]] ?_
            with_reducible refine (extent_Check.calls ((rd_T36 l0_3 x46_2).f0) ((rd_T36 l0_3 x46_2).f1) ((rd_T36 l0_3 x46_2).f2) ((rd_T36 l0_3 x46_2).f3) _ _ ((rd_T36 l0_3 x46_2).f4) true _ ?side1 ?side2 A26.out).mono ?_
            (case side1 => exact Cz.cb HR206_4)
            (case side2 => exact HC206_4.out)
            rintro e w47 ⟨rfl, hb⟩
            refine ⟨_, rfl, ?_⟩
            replace BK205 := Cz.bk BK205 hb
            replace BK207 := Cz.bk BK207 hb
            replace HB := Cz.bs (w := w) hb
            (try clear hb)
            (try clear hb2)
            (try clear hk)
            (try clear hi)
            refine hK.out _ _ ⟨(blk_cell BK207.out 0).trans rfl, (blk_cell BK207.out 1).trans rfl, (blk_cell BK207.out 2).trans rfl, (blk_cell BK207.out 3).trans rfl, (blk_cell BK207.out 4).trans rfl⟩ (fun hHeld => ?_)
            clear hK K
            refine norm_ (a' := ?_) ?_ ?_
            rotate_left
            ·show Act.put _ (some 52) _ = _
             simp only [Act.put, Kx.sb, Kx.sz, Kx.ss, i64_w, i32_w]
             rfl
            refine Cz.qP 2 53 HT_ ?_
            refine Cz.qP 3 54 HT_ ?_
            refine Cz.qP 4 55 HT_ ?_
            refine Cz.qT 5 56 HT_ HW_ hHeld ?_
            refine Cz.qP 6 57 HT_ ?_
            refine Cz.qP 7 58 HT_ ?_
            refine Cz.qP 8 59 HT_ ?_
            refine Cz.qU 9 60 HT_ ?_
            refine Cz.qU 10 61 HT_ ?_
            refine Cz.qU 11 62 HT_ ?_
            refine Cz.qU 12 63 HT_ ?_
            refine Cz.qP 13 64 HT_ ?_
            refine Cz.qP 14 65 HT_ ?_
            refine Cz.qU 15 66 HT_ ?_
            refine Cz.qU 16 67 HT_ ?_
            refine Cz.qU 17 68 HT_ ?_
            refine Cz.qU 18 69 HT_ ?_
            refine Cz.qU 19 70 HT_ ?_
            refine Cz.qU 20 71 HT_ ?_
            refine Cz.qU 21 72 HT_ ?_
            refine Cz.qU 22 73 HT_ ?_
            refine Cz.qU 23 74 HT_ ?_
            refine Cz.qU 24 75 HT_ ?_
            refine Cz.qU 25 76 HT_ ?_
            refine Cz.qU 26 77 HT_ ?_
            refine Cz.qP 27 78 HT_ ?_
            refine done_ (done_of HT_.out (by kernel_rfl)) ?_
            try go_wp2
            go_meet
            case rel => exact ⟨_, (true), Cz.si, H', ⟨by have := HJ1.out; have := HK2.out; first | omega | exact Nat.le_refl _⟩, ⟨by (with_reducible repeat (first | refine blk_drewN ?_ _ | refine blk_drew ?_ | refine blk_alloc ?_ _)); exact BK205.out⟩, ⟨by (with_reducible repeat (first | refine blk_drewN ?_ _ | refine blk_drew ?_ | refine blk_alloc ?_ _)); exact BK207.out⟩, ⟨Cz.bl (w := w)⟩⟩
          ·replace c27 := Bool.eq_false_iff.mpr c27
           subst c27
           rw [if_neg (show ¬ (false = true) by decide)] at H
           have H' := Aside0.mk H
           clear H
           try go_wp2
           have n0_ : Aside0 ((((((w23.setCell ⟨gb207, 0, none⟩ (.int .i64 ((rd_T36 l0_3 x46_2).f0))).setCell ⟨gb207, 1, none⟩ (.int .i64 ((rd_T36 l0_3 x46_2).f1))).setCell ⟨gb207, 2, none⟩ (.int .i64 ((rd_T36 l0_3 x46_2).f2))).setCell ⟨gb207, 3, none⟩ (.int .i64 ((rd_T36 l0_3 x46_2).f3))).setCell ⟨gb207, 4, none⟩ (.slice A206_4 ((rd_T36 l0_3 x46_2).f4).length c206_4)).heap[gb205]? = some (.cells #[.int .i64 a0_0, .int .i64 a0_1, .int .i64 a0_2, .slice (some ad206) l0_3.length c0_3] 24 (0, 0))) := ⟨by (with_reducible repeat (first | refine blk_drewN ?_ _ | refine blk_drew ?_ | refine blk_alloc ?_ _)); refine blk_far ?_ NB205_207.out _; refine blk_far ?_ NB205_207.out _; refine blk_far ?_ NB205_207.out _; refine blk_far ?_ NB205_207.out _; refine blk_far ?_ NB205_207.out _; (with_reducible repeat (first | refine blk_drewN ?_ _ | refine blk_drew ?_ | refine blk_alloc ?_ _)); exact BK205.out⟩
           have n1_ : Aside0 ((((((w23.setCell ⟨gb207, 0, none⟩ (.int .i64 ((rd_T36 l0_3 x46_2).f0))).setCell ⟨gb207, 1, none⟩ (.int .i64 ((rd_T36 l0_3 x46_2).f1))).setCell ⟨gb207, 2, none⟩ (.int .i64 ((rd_T36 l0_3 x46_2).f2))).setCell ⟨gb207, 3, none⟩ (.int .i64 ((rd_T36 l0_3 x46_2).f3))).setCell ⟨gb207, 4, none⟩ (.slice A206_4 ((rd_T36 l0_3 x46_2).f4).length c206_4)).heap[gb207]? = some (.cells #[.int .i64 ((rd_T36 l0_3 x46_2).f0), .int .i64 ((rd_T36 l0_3 x46_2).f1), .int .i64 ((rd_T36 l0_3 x46_2).f2), .int .i64 ((rd_T36 l0_3 x46_2).f3), .slice A206_4 ((rd_T36 l0_3 x46_2).f4).length c206_4] 36 (0, 0))) := ⟨by (with_reducible repeat (first | refine blk_drewN ?_ _ | refine blk_drew ?_ | refine blk_alloc ?_ _)); apply Cz.a5; (with_reducible repeat (first | refine blk_drewN ?_ _ | refine blk_drew ?_ | refine blk_alloc ?_ _)); exact BK207.out⟩
           have n2_ : Aside0 (Below w.heap.size w (((((w23.setCell ⟨gb207, 0, none⟩ (.int .i64 ((rd_T36 l0_3 x46_2).f0))).setCell ⟨gb207, 1, none⟩ (.int .i64 ((rd_T36 l0_3 x46_2).f1))).setCell ⟨gb207, 2, none⟩ (.int .i64 ((rd_T36 l0_3 x46_2).f2))).setCell ⟨gb207, 3, none⟩ (.int .i64 ((rd_T36 l0_3 x46_2).f3))).setCell ⟨gb207, 4, none⟩ (.slice A206_4 ((rd_T36 l0_3 x46_2).f4).length c206_4))) := ⟨Cz.bl (w := w)⟩
           (try clear BK205)
           (try clear BK207)
           (try clear HB)
           generalize (((((w23.setCell ⟨gb207, 0, none⟩ (.int .i64 ((rd_T36 l0_3 x46_2).f0))).setCell ⟨gb207, 1, none⟩ (.int .i64 ((rd_T36 l0_3 x46_2).f1))).setCell ⟨gb207, 2, none⟩ (.int .i64 ((rd_T36 l0_3 x46_2).f2))).setCell ⟨gb207, 3, none⟩ (.int .i64 ((rd_T36 l0_3 x46_2).f3))).setCell ⟨gb207, 4, none⟩ (.slice A206_4 ((rd_T36 l0_3 x46_2).f4).length c206_4)) = w48 at n0_ n1_ n2_ ⊢
           have BK205 := n0_
           have BK207 := n1_
           have HB := n2_
           clear n0_ n1_ n2_
           replace BK205 := Aside0.mk (blk_drew BK205.out)
           replace BK207 := Aside0.mk (blk_drew BK207.out)
           replace HB := Aside0.mk (below_drew1 HB.out)
           refine start_ (n := 28) (S := fun w' => w'.cell? ⟨gb207, 0, none⟩ = some (.int .i64 ((rd_T36 l0_3 x46_2).f0)) ∧ w'.cell? ⟨gb207, 1, none⟩ = some (.int .i64 ((rd_T36 l0_3 x46_2).f1)) ∧ w'.cell? ⟨gb207, 2, none⟩ = some (.int .i64 ((rd_T36 l0_3 x46_2).f2)) ∧ w'.cell? ⟨gb207, 3, none⟩ = some (.int .i64 ((rd_T36 l0_3 x46_2).f3)) ∧ w'.cell? ⟨gb207, 4, none⟩ = some (.slice A206_4 ((rd_T36 l0_3 x46_2).f4).length c206_4)) (ds := []) #[false, false, false, false, false, false, false, false, false, false, false, false, false, false, false, false, false, false, false, false, false, false, false, false, false, false, false, false] (by kernel_rfl) rfl rfl ⟨(blk_cell BK207.out 0).trans rfl, (blk_cell BK207.out 1).trans rfl, (blk_cell BK207.out 2).trans rfl, (blk_cell BK207.out 3).trans rfl, (blk_cell BK207.out 4).trans rfl⟩ (fun hHeld => ?_); refine with_tabW stream_Check_p.tab7 stream_Check_p.bits7 (fun HT_ HW_ => ?_)
           generalize w48.drew = w49 at BK205 BK207 HB hHeld ⊢
           refine Cz.qT 0 51 HT_ HW_ hHeld ?_
           refine Cz.qO (N := some 52) 1 HT_ (fun K hK => ?_)
           refine Cz.gO Try.func55 #[.agg #[.int .i64 ((rd_T36 l0_3 x46_2).f0), .int .i64 ((rd_T36 l0_3 x46_2).f1), .int .i64 ((rd_T36 l0_3 x46_2).f2), .int .i64 ((rd_T36 l0_3 x46_2).f3), .slice A206_4 ((rd_T36 l0_3 x46_2).f4).length c206_4]] ?_
           with_reducible refine (extent_Check.calls ((rd_T36 l0_3 x46_2).f0) ((rd_T36 l0_3 x46_2).f1) ((rd_T36 l0_3 x46_2).f2) ((rd_T36 l0_3 x46_2).f3) _ _ ((rd_T36 l0_3 x46_2).f4) false _ ?side1 ?side2 A26.out).mono ?_
           (case side1 => exact Cz.cb HR206_4)
           (case side2 => exact HC206_4.out)
           rintro e w50 ⟨rfl, hb⟩
           refine ⟨_, rfl, ?_⟩
           replace BK205 := Cz.bk BK205 hb
           replace BK207 := Cz.bk BK207 hb
           replace HB := Cz.bs (w := w) hb
           (try clear hb)
           (try clear hb2)
           (try clear hk)
           (try clear hi)
           refine hK.out _ _ ⟨(blk_cell BK207.out 0).trans rfl, (blk_cell BK207.out 1).trans rfl, (blk_cell BK207.out 2).trans rfl, (blk_cell BK207.out 3).trans rfl, (blk_cell BK207.out 4).trans rfl⟩ (fun hHeld => ?_)
           clear hK K
           refine norm_ (a' := ?_) ?_ ?_
           rotate_left
           ·show Act.put _ (some 52) _ = _
            simp only [Act.put, Kx.sb, Kx.sz, Kx.ss, i64_w, i32_w]
            rfl
           refine Cz.qP 2 53 HT_ ?_
           refine Cz.qP 3 54 HT_ ?_
           refine Cz.qU 4 55 HT_ ?_
           refine Cz.qU 5 56 HT_ ?_
           refine Cz.qU 6 57 HT_ ?_
           refine Cz.qP 7 58 HT_ ?_
           refine Cz.qP 8 59 HT_ ?_
           refine Cz.qU 9 60 HT_ ?_
           refine Cz.qU 10 61 HT_ ?_
           refine Cz.qU 11 62 HT_ ?_
           refine Cz.qU 12 63 HT_ ?_
           refine Cz.qP 13 64 HT_ ?_
           refine Cz.qP 14 65 HT_ ?_
           refine Cz.qU 15 66 HT_ ?_
           refine Cz.qU 16 67 HT_ ?_
           refine Cz.qU 17 68 HT_ ?_
           refine Cz.qU 18 69 HT_ ?_
           refine Cz.qU 19 70 HT_ ?_
           refine Cz.qU 20 71 HT_ ?_
           refine Cz.qU 21 72 HT_ ?_
           refine Cz.qU 22 73 HT_ ?_
           refine Cz.qU 23 74 HT_ ?_
           refine Cz.qU 24 75 HT_ ?_
           refine Cz.qU 25 76 HT_ ?_
           refine Cz.qU 26 77 HT_ ?_
           refine Cz.qP 27 78 HT_ ?_
           refine done_ (done_of HT_.out (by kernel_rfl)) ?_
           try go_wp2
           go_meet
           case rel => exact ⟨_, (true), Cz.si, H', ⟨by have := HJ1.out; have := HK2.out; first | omega | exact Nat.le_refl _⟩, ⟨by (with_reducible repeat (first | refine blk_drewN ?_ _ | refine blk_drew ?_ | refine blk_alloc ?_ _)); exact BK205.out⟩, ⟨by (with_reducible repeat (first | refine blk_drewN ?_ _ | refine blk_drew ?_ | refine blk_alloc ?_ _)); exact BK207.out⟩, ⟨Cz.bl (w := w)⟩⟩
         case rest =>
          clear HC22
          try clear c2
          try clear p2
          try clear c5
          try clear c20
          try clear c27
          try clear c28
          try clear c28b0
          try clear c28b1
          obtain ⟨kq, x78_21, rfl, HA, HJ21, BK205, BK207, HB⟩ := hcut
          cases kq with
          | zero => exact absurd HA.out (by simp [stream_Check_p.j2])
          | succ kj21 =>
           have H := HA.out
           clear HA
           simp only [stream_Check_p.j2] at H
           by_cases c51 : x78_21 = true
           ·subst c51
            rw [if_pos rfl] at H
            obtain rfl := Option.some.inj H
            go_wp2
            go_ret
            exact ⟨Cz.er, Cz.bl (w := w)⟩
           ·replace c51 := Bool.eq_false_iff.mpr c51
            subst c51
            rw [if_neg (show ¬ (false = true) by decide)] at H
            replace H := Option.bind_eq_some_iff.mp H
            obtain ⟨t211, A520, H⟩ := H
            (try dsimp only at H)
            have A52 := Aside0.mk A520
            clear A520
            by_cases c53 : t211 = true
            ·subst c53
             rw [if_pos rfl] at H
             obtain rfl := Option.some.inj H
             have hnb54 := NB207_205.out
             have hnc54 := NB205_207.out
             have z55_0 : wc.cell? ⟨gb207, 0, none⟩ = some (.int .i64 ((rd_T36 l0_3 x46_2).f0)) := (blk_cell BK207.out 0).trans rfl
             have z55_1 : wc.cell? ⟨gb207, 1, none⟩ = some (.int .i64 ((rd_T36 l0_3 x46_2).f1)) := (blk_cell BK207.out 1).trans rfl
             have z55_2 : wc.cell? ⟨gb207, 2, none⟩ = some (.int .i64 ((rd_T36 l0_3 x46_2).f2)) := (blk_cell BK207.out 2).trans rfl
             have z55_3 : wc.cell? ⟨gb207, 3, none⟩ = some (.int .i64 ((rd_T36 l0_3 x46_2).f3)) := (blk_cell BK207.out 3).trans rfl
             have z55_4 : wc.cell? ⟨gb207, 4, none⟩ = some (.slice A206_4 ((rd_T36 l0_3 x46_2).f4).length c206_4) := (blk_cell BK207.out 4).trans rfl
             obtain ⟨y55_0, y55_1, y55_2, y55_3, y55_4⟩ := Cz.f5 BK207
             go_wp2
             go_loopg [6] (((rd_T36 l0_3 x46_2).f4).length + 1) (fun kq v6 w' => ∃ (Az : Option Addr) (cz : Nat) (d : List Int), v6 = .slice Az d.length cz ∧ Aside0 (d.length < kq) ∧ Aside0 (Pl.zerS d = true) ∧ Aside0 (d.length ≤ cz) ∧ Aside0 (Kd.C (Kd.int .u8) w' Az d.length d) ∧ Aside0 (w'.heap[gb205]? = some (.cells #[.int .i64 a0_0, .int .i64 a0_1, .int .i64 a0_2, .slice (some ad206) l0_3.length c0_3] 24 (0, 0))) ∧ Aside0 (w'.heap[gb207]? = some (.cells #[.int .i64 ((rd_T36 l0_3 x46_2).f0), .int .i64 ((rd_T36 l0_3 x46_2).f1), .int .i64 ((rd_T36 l0_3 x46_2).f2), .int .i64 ((rd_T36 l0_3 x46_2).f3), .slice A206_4 ((rd_T36 l0_3 x46_2).f4).length c206_4] 36 (0, 0))) ∧ Aside0 (Below w.heap.size w w'))
             case atStart => exact ⟨_, _, ((rd_T36 l0_3 x46_2).f4), rfl, ⟨Nat.lt_succ_self _⟩, ⟨Option.some.inj A52.out⟩, HC206_4, ⟨Kd.C_below HR206_4.out HB.out⟩, BK205, BK207, HB⟩
             case round =>
              clear BK205 BK207 HB z55_0 z55_1 z55_2 z55_3 z55_4 y55_0 y55_1 y55_2 y55_3 y55_4
              obtain ⟨Az, cz, d, rfl, HQ, HZ, HZC, HZR, BK205, BK207, HB⟩ := hrel
              by_cases h32 : d.length < 32
              ·exact absurd HZ.out (by rw [Pl.zerS_short h32]; decide)
              ·have HZ1 := HZ.out
               clear HZ
               rw [Pl.zerS_long h32, Bool.or_eq_true] at HZ1
               have H32 := Aside0.mk (Nat.le_of_not_lt h32)
               have z1 : decide (32 ≤ d.length) = true := decide_eq_true (by omega)
               have z2 : decide ((32 : Int) ≤ (d.length : Int)) = true := decide_eq_true (by omega)
               clear h32
               by_cases hz : Pl.zeroB (d.take 32) = true
               ·clear HZ1
                have HZB := Aside0.mk hz
                obtain ⟨i0z, hi0z, _, hszz, _⟩ := info_parts info5
                have hcutz := cut_to (P := Try.prog) 27 5 .i64 Try.underlying27 hi0z Az d.length cz (32 : Int) (by omega) (by have := H32.out; omega) HZC.out
                rw [show ((32 : Int)).toNat = 32 from rfl] at hcutz
                clear hi0z hszz
                go_wp2_with (first | ((with_reducible refine gate_callee (f := 57) rfl ?_); refine Cz.gL (N := (some 93)) Try.func57 #[.slice Az 32 cz] ?_; (with_reducible refine (stream_zeros Az cz d true _ HZR.out H32.out HZC.out HZB.out).mono ?_); rintro e w' ⟨rfl, ⟨nd, rfl⟩⟩; refine ⟨_, rfl, ?_⟩))
                clear hz
                go_ret
                exact ⟨Cz.er, Cz.bl (w := w)⟩
               ·have HZN := Aside0.mk (HZ1.resolve_left hz)
                clear HZ1
                rw [Bool.not_eq_true] at hz
                have HZB := Aside0.mk hz
                obtain ⟨i0z, hi0z, _, hszz, _⟩ := info_parts info5
                have hcutz := cut_to (P := Try.prog) 27 5 .i64 Try.underlying27 hi0z Az d.length cz (32 : Int) (by omega) (by have := H32.out; omega) HZC.out
                rw [show ((32 : Int)).toNat = 32 from rfl] at hcutz
                obtain ⟨An, hcutn, hAn, hCn⟩ := print_drop_of (P := Try.prog) (Value.int .u8) 0 27 5 .i64 Try.underlying27 hi0z hszz Az cz d (32 : Int) (by omega) (by have := H32.out; omega) HZC.out
                rw [show ((32 : Int)).toNat = 32 from rfl] at hcutn hAn hCn
                have HRn := Aside0.mk (Kd.C_of_reads (h1 := fun _ => rfl) (hAn _ (Kd.reads_of_C HZR.out)))
                have HCn := Aside0.mk hCn
                have HLn := Aside0.mk (show (d.drop 32).length = d.length - 32 from List.length_drop)
                clear hAn hCn
                clear hi0z hszz
                go_wp2_with (first | ((with_reducible refine gate_callee (f := 57) rfl ?_); refine Cz.gL (N := (some 93)) Try.func57 #[.slice Az 32 cz] ?_; (with_reducible refine (stream_zeros Az cz d false _ HZR.out H32.out HZC.out HZB.out).mono ?_); rintro e w' ⟨rfl, ⟨nd, rfl⟩⟩; refine ⟨_, rfl, ?_⟩))
                clear hz
                go_roundg ((d.drop 32).length + 1)
                case measure => have := HQ.out; have := H32.out; rw [List.length_drop]; omega
                case rel => exact ⟨An, _, d.drop 32, (by first | rfl | (simp; done) | (simp [*]; done) | (rw [HLn.out])), ⟨Nat.lt_succ_self _⟩, HZN, HCn, ⟨by (with_reducible repeat (first | refine Kd.C_alloc ?_ _ | refine Kd.C_drewN ?_ _ | refine Kd.C_drew ?_)); exact HRn.out⟩, ⟨by (with_reducible repeat (first | refine blk_drewN ?_ _ | refine blk_drew ?_ | refine blk_alloc ?_ _)); exact BK205.out⟩, ⟨by (with_reducible repeat (first | refine blk_drewN ?_ _ | refine blk_drew ?_ | refine blk_alloc ?_ _)); exact BK207.out⟩, ⟨Cz.bl (w := w)⟩⟩
            ·replace c53 := Bool.eq_false_iff.mpr c53
             subst c53
             rw [if_neg (show ¬ (false = true) by decide)] at H
             have H' := Aside0.mk H
             clear H
             have hnb57 := NB207_205.out
             have hnc57 := NB205_207.out
             have z58_0 : wc.cell? ⟨gb207, 0, none⟩ = some (.int .i64 ((rd_T36 l0_3 x46_2).f0)) := (blk_cell BK207.out 0).trans rfl
             have z58_1 : wc.cell? ⟨gb207, 1, none⟩ = some (.int .i64 ((rd_T36 l0_3 x46_2).f1)) := (blk_cell BK207.out 1).trans rfl
             have z58_2 : wc.cell? ⟨gb207, 2, none⟩ = some (.int .i64 ((rd_T36 l0_3 x46_2).f2)) := (blk_cell BK207.out 2).trans rfl
             have z58_3 : wc.cell? ⟨gb207, 3, none⟩ = some (.int .i64 ((rd_T36 l0_3 x46_2).f3)) := (blk_cell BK207.out 3).trans rfl
             have z58_4 : wc.cell? ⟨gb207, 4, none⟩ = some (.slice A206_4 ((rd_T36 l0_3 x46_2).f4).length c206_4) := (blk_cell BK207.out 4).trans rfl
             obtain ⟨y58_0, y58_1, y58_2, y58_3, y58_4⟩ := Cz.f5 BK207
             go_wp2
             go_loopg [6] (((rd_T36 l0_3 x46_2).f4).length + 1) (fun kq v6 w' => ∃ (Az : Option Addr) (cz : Nat) (d : List Int), v6 = .slice Az d.length cz ∧ Aside0 (d.length < kq) ∧ Aside0 (Pl.zerS d = false) ∧ Aside0 (d.length ≤ cz) ∧ Aside0 (Kd.C (Kd.int .u8) w' Az d.length d) ∧ Aside0 (w'.heap[gb205]? = some (.cells #[.int .i64 a0_0, .int .i64 a0_1, .int .i64 a0_2, .slice (some ad206) l0_3.length c0_3] 24 (0, 0))) ∧ Aside0 (w'.heap[gb207]? = some (.cells #[.int .i64 ((rd_T36 l0_3 x46_2).f0), .int .i64 ((rd_T36 l0_3 x46_2).f1), .int .i64 ((rd_T36 l0_3 x46_2).f2), .int .i64 ((rd_T36 l0_3 x46_2).f3), .slice A206_4 ((rd_T36 l0_3 x46_2).f4).length c206_4] 36 (0, 0))) ∧ Aside0 (Below w.heap.size w w'))
             case atStart => exact ⟨_, _, ((rd_T36 l0_3 x46_2).f4), rfl, ⟨Nat.lt_succ_self _⟩, ⟨Option.some.inj A52.out⟩, HC206_4, ⟨Kd.C_below HR206_4.out HB.out⟩, BK205, BK207, HB⟩
             case round =>
              clear BK205 BK207 HB z58_0 z58_1 z58_2 z58_3 z58_4 y58_0 y58_1 y58_2 y58_3 y58_4
              obtain ⟨Az, cz, d, rfl, HQ, HZ, HZC, HZR, BK205, BK207, HB⟩ := hrel
              by_cases h32 : d.length < 32
              ·have z1 : decide (32 ≤ d.length) = false := decide_eq_false (by omega)
               have z2 : decide ((32 : Int) ≤ (d.length : Int)) = false := decide_eq_false (by omega)
               clear h32
               go_wp2
               go_roundg kj21
               case measure => have := HJ1.out; have := HK2.out; have := HJ21.out; omega
               case rel => exact ⟨(wrap64 (((rd_T36 l0_3 x46_2).f0) + ((rd_T36 l0_3 x46_2).f1))), (wrap64 (x46_2 + 1)), Cz.si, Cz.si, H', ⟨by have := HJ1.out; have := HK2.out; have := HJ21.out; omega⟩, ⟨by (with_reducible repeat (first | refine blk_drewN ?_ _ | refine blk_drew ?_ | refine blk_alloc ?_ _)); exact BK205.out⟩, ⟨Cz.bl (w := w)⟩⟩
              ·have HZ1 := HZ.out
               clear HZ
               rw [Pl.zerS_long h32, Bool.or_eq_false_iff] at HZ1
               have H32 := Aside0.mk (Nat.le_of_not_lt h32)
               have z1 : decide (32 ≤ d.length) = true := decide_eq_true (by omega)
               have z2 : decide ((32 : Int) ≤ (d.length : Int)) = true := decide_eq_true (by omega)
               clear h32
               obtain ⟨hz, hzn⟩ := HZ1
               have HZN := Aside0.mk hzn
               clear hzn
               have HZB := Aside0.mk hz
               obtain ⟨i0z, hi0z, _, hszz, _⟩ := info_parts info5
               have hcutz := cut_to (P := Try.prog) 27 5 .i64 Try.underlying27 hi0z Az d.length cz (32 : Int) (by omega) (by have := H32.out; omega) HZC.out
               rw [show ((32 : Int)).toNat = 32 from rfl] at hcutz
               obtain ⟨An, hcutn, hAn, hCn⟩ := print_drop_of (P := Try.prog) (Value.int .u8) 0 27 5 .i64 Try.underlying27 hi0z hszz Az cz d (32 : Int) (by omega) (by have := H32.out; omega) HZC.out
               rw [show ((32 : Int)).toNat = 32 from rfl] at hcutn hAn hCn
               have HRn := Aside0.mk (Kd.C_of_reads (h1 := fun _ => rfl) (hAn _ (Kd.reads_of_C HZR.out)))
               have HCn := Aside0.mk hCn
               have HLn := Aside0.mk (show (d.drop 32).length = d.length - 32 from List.length_drop)
               clear hAn hCn
               clear hi0z hszz
               go_wp2_with (first | ((with_reducible refine gate_callee (f := 57) rfl ?_); refine Cz.gL (N := (some 93)) Try.func57 #[.slice Az 32 cz] ?_; (with_reducible refine (stream_zeros Az cz d false _ HZR.out H32.out HZC.out HZB.out).mono ?_); rintro e w' ⟨rfl, ⟨nd, rfl⟩⟩; refine ⟨_, rfl, ?_⟩))
               clear hz
               go_roundg ((d.drop 32).length + 1)
               case measure => have := HQ.out; have := H32.out; rw [List.length_drop]; omega
               case rel => exact ⟨An, _, d.drop 32, (by first | rfl | (simp; done) | (simp [*]; done) | (rw [HLn.out])), ⟨Nat.lt_succ_self _⟩, HZN, HCn, ⟨by (with_reducible repeat (first | refine Kd.C_alloc ?_ _ | refine Kd.C_drewN ?_ _ | refine Kd.C_drew ?_)); exact HRn.out⟩, ⟨by (with_reducible repeat (first | refine blk_drewN ?_ _ | refine blk_drew ?_ | refine blk_alloc ?_ _)); exact BK205.out⟩, ⟨by (with_reducible repeat (first | refine blk_drewN ?_ _ | refine blk_drew ?_ | refine blk_alloc ?_ _)); exact BK207.out⟩, ⟨Cz.bl (w := w)⟩⟩
        ·rw [if_neg c21] at H
         exact absurd H (by simp)
       ·rw [if_neg c20] at H
        exact absurd H (by simp)
      ·rw [if_neg c19] at H
       have c19b0 : decide (x46_2 < (l0_3.length : Int)) = false := decide_eq_false c19
       clear c19
       obtain rfl := Option.some.inj H
       obtain ⟨z60_0, z60_1, z60_2, z60_3, y60_0, y60_1, y60_2, y60_3⟩ := Cz.d4 BK205
       go_wp2
       go_ret
       exact ⟨Cz.er, Cz.bl (w := w)⟩
end Go.Proofs.Ytohkmmbmfhficaa.PM
