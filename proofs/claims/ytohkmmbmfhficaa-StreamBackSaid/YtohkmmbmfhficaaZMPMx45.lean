/- Words and walks that this claim names, of those that the kit's print and programs of this workplace have printed. -/
import Derived.Test.YtohkmmbmfhficaaZMCz
import Derived.Test.YtohkmmbmfhficaaZMPMx5
import Derived.Test.YtohkmmbmfhficaaZMPMx38
namespace Go.Proofs.Ytohkmmbmfhficaa.PM
open Go.Proofs.Ytohkmmbmfhficaa Go.RowKit Go.Proofs.YtohkmmbmfhficaaW.PrintWords Go.Proofs.YtohkmmbmfhficaaW.PrintLast Go.Proofs.YtohkmmbmfhficaaW.PrintMore
attribute [local go_sem] max2_int min2_int max_two min_two max_three min_three max_four min_four
set_option linter.unusedVariables false
set_option linter.unusedSimpArgs false
def zeros_Is_p.l0 : Nat → List Int → Int → Int → Option (Bool)
 | 0, _, _, _ => none
 | k + 1, x5, x6, x7 => if x7 < x6 then (if 0 ≤ x7 then (if x7 < (x5.length : Int) then (if (rd x5 x7) = 0 then (zeros_Is_p.l0 k x5 x6 (wrap64 (x7 + 1))) else (some false)) else (none)) else (none)) else (some true)
def zeros_Is_p.f (k : Nat) (l0 : List Int) : Option (Bool) := zeros_Is_p.l0 k l0 (l0.length : Int) 0
set_option maxHeartbeats 8000000 in
set_option maxRecDepth 100000 in
theorem zeros_Is_p.calls (k : Nat) (A0 : Option Addr) (c0 : Nat) (l0 : List Int) (r : Bool) (w : World) (hr0 : Kd.C (Kd.int .u8) w A0 l0.length l0) (hc0 : l0.length ≤ c0) (h : zeros_Is_p.f k l0 = some r) :
  Calls Try.prog 57 #[.slice A0 l0.length c0] w fun e w' => e = .returned (.bool r) ∧ Drawn0 w w' := by
 have HR0 := Aside0.mk hr0
 have HC0 := Aside0.mk hc0
 clear hr0 hc0
 have H : (zeros_Is_p.l0 k l0 (l0.length : Int) 0) = some r := h
 clear h
 have H' := Aside0.mk H
 clear H
 go_enter Try.func57, Try.ntmps57
 go_wp2
 go_loopg [7] k (fun kq v7 w' => ∃ (x7_1 : Int), v7 = .int .i64 x7_1 ∧ Aside0 (zeros_Is_p.l0 kq l0 (l0.length : Int) x7_1 = some r) ∧ Aside0 (kq ≤ k) ∧ Drawn0 w w')
 case atStart => exact ⟨(0), Cz.si, H', ⟨Nat.le_refl _⟩, by repeat (first | exact Drawn0.refl _ | apply Drawn0.step)⟩
 case round =>
  clear H'
  obtain ⟨x7_1, rfl, HA, HK1, ⟨m1, rfl⟩⟩ := hrel
  cases gk with
  | zero => exact absurd HA.out (by simp [zeros_Is_p.l0])
  | succ k1 =>
   have H := HA.out
   clear HA
   simp only [zeros_Is_p.l0] at H
   by_cases c2 : x7_1 < (l0.length : Int)
   ·rw [if_pos c2] at H
    have c2b0 : decide (x7_1 < (l0.length : Int)) = true := decide_eq_true c2
    clear c2
    by_cases c3 : 0 ≤ x7_1
    ·rw [if_pos c3] at H
     have c3b0 : decide (0 ≤ x7_1) = true := decide_eq_true c3
     clear c3
     by_cases c4 : x7_1 < (l0.length : Int)
     ·rw [if_pos c4] at H
      have c4b0 : decide (x7_1 < (l0.length : Int)) = true := decide_eq_true c4
      clear c4
      by_cases c5 : (rd l0 x7_1) = 0
      ·rw [if_pos c5] at H
       have c5b0 : ((rd l0 x7_1) == 0) = true := beq_iff_eq.mpr c5
       have c5b1 : ((rd l0 x7_1) != 0) = false := bne_eq_false_iff_eq.mpr c5
       clear c5
       have H' := Aside0.mk H
       clear H
       have p156 : 0 ≤ (x7_1 : Int) := of_decide_eq_true (by first | (with_reducible assumption) | assumption)
       have q156 : x7_1 < (l0.length : Int) := of_decide_eq_true (by first | (with_reducible assumption) | assumption)
       obtain ⟨ad156, e156, hx156_0⟩ := Kd.at_int HR0.out x7_1 p156 q156
       cases e156
       replace p156 := eq_true p156
       replace q156 := eq_true q156
       go_wp2
       go_roundg k1
       case measure => have := HK1.out; omega
       case rel => exact ⟨(wrap64 (x7_1 + 1)), Cz.si, H', ⟨by have := HK1.out; omega⟩, by repeat (first | exact Drawn0.refl _ | apply Drawn0.step)⟩
      ·rw [if_neg c5] at H
       have c5b0 : ((rd l0 x7_1) == 0) = false := beq_eq_false_iff_ne.mpr c5
       have c5b1 : ((rd l0 x7_1) != 0) = true := bne_iff_ne.mpr c5
       obtain rfl := Option.some.inj H
       have p156 : 0 ≤ (x7_1 : Int) := of_decide_eq_true (by first | (with_reducible assumption) | assumption)
       have q156 : x7_1 < (l0.length : Int) := of_decide_eq_true (by first | (with_reducible assumption) | assumption)
       obtain ⟨ad156, e156, hx156_0⟩ := Kd.at_int HR0.out x7_1 p156 q156
       cases e156
       replace p156 := eq_true p156
       replace q156 := eq_true q156
       go_wp2
       go_ret
       exact ⟨by first | rfl | (simp; done) | (simp [*]; done), by repeat (first | exact Drawn0.refl _ | apply Drawn0.step)⟩
     ·rw [if_neg c4] at H
      exact absurd H (by simp)
    ·rw [if_neg c3] at H
     exact absurd H (by simp)
   ·rw [if_neg c2] at H
    have c2b0 : decide (x7_1 < (l0.length : Int)) = false := decide_eq_false c2
    clear c2
    obtain rfl := Option.some.inj H
    go_wp2
    go_ret
    exact ⟨by first | rfl | (simp; done) | (simp [*]; done), by repeat (first | exact Drawn0.refl _ | apply Drawn0.step)⟩
def zeros_Is.f (l0 : List Int) : Option Bool := if l0.length < 1073741824 then some (Pl.zeroB l0) else none
theorem zeros_Is.tells {l0 : List Int} (h : l0.length < 1073741824) : zeros_Is.f l0 = some (Pl.zeroB l0) := if_pos h
theorem zeros_Is.loop {l : List Int} (h : l.length < 1073741824) : ∀ (d k i : Nat), l.length - i = d → i ≤ l.length → d < k → zeros_Is_p.l0 k l (l.length : Int) (i : Int) = some (Pl.zeroB (l.drop i))
 | 0, k, i, hd, hi, hk => by
  obtain ⟨k, rfl⟩ : ∃ m, k = m + 1 := ⟨k - 1, by omega⟩
  rw [zeros_Is_p.l0, if_neg (by omega), List.drop_of_length_le (by omega)]
  rfl
 | d + 1, k, i, hd, hi, hk => by
  obtain ⟨k, rfl⟩ : ∃ m, k = m + 1 := ⟨k - 1, by omega⟩
  have hi0 : i < l.length := by omega
  rw [zeros_Is_p.l0, if_pos (by omega), if_pos (by omega), if_pos (by omega), show rd l (i : Int) = l[i] by simp [rd, hi0], List.drop_eq_getElem_cons hi0, Pl.zeroB, List.all_cons]
  by_cases h0 : l[i] = 0
  ·rw [if_pos h0, show wrap64 ((i : Int) + 1) = ((i + 1 : Nat) : Int) by unfold wrap64; omega, zeros_Is.loop h d k (i + 1) (by omega) (by omega) (by omega), decide_eq_true h0, Bool.true_and]
   rfl
  ·rw [if_neg h0, decide_eq_false h0, Bool.false_and]
theorem zeros_Is.closes {l0 : List Int} {r : Bool} (h : zeros_Is.f l0 = some r) : zeros_Is_p.f (l0.length + 1) l0 = some r := by
 unfold zeros_Is.f at h
 split at h
 case isFalse => cases h
 rename_i hh
 rw [← h]
 unfold zeros_Is_p.f
 have := zeros_Is.loop hh l0.length (l0.length + 1) 0 (by omega) (by omega) (by omega)
 rwa [List.drop_zero] at this
def stream_Zeros.f (l : List Int) : Option Bool := some (Pl.zerS l)
theorem zeros_Is.calls (A0 : Option Addr) (c0 : Nat) (l0 : List Int) (r : Bool) (w : World) (hr0 : Kd.C (Kd.int .u8) w A0 l0.length l0) (hc0 : l0.length ≤ c0) (h : zeros_Is.f l0 = some r) :
  Calls Try.prog 57 #[.slice A0 l0.length c0] w fun e w' => e = .returned (.bool r) ∧ Drawn0 w w' :=
 zeros_Is_p.calls (l0.length + 1) A0 c0 l0 r w hr0 hc0 (zeros_Is.closes h)
mutual
def frame_blocks_may.j0 : Nat → Bool → Int → Int → Int → List Int → Option (Bool)
 | 0, _, _, _, _, _ => none
 | k + 1, x16, x158000, x158001, x158002, x158003 => if x16 = true then (some false) else (if x158000 = 2 then (frame_blocks_may.l0 k x158003 x158000 x158001 x158002 x158003) else (some ((x158003.length : Int) == 0)))
def frame_blocks_may.l0 : Nat → List Int → Int → Int → Int → List Int → Option (Bool)
 | 0, _, _, _, _, _ => none
 | k + 1, x3, x158000, x158001, x158002, x158003 => if (x3.length : Int) ≥ 32 then (if 32 ≤ (x3.length : Int) then ((zeros_Is.f (x3.take 32)).bind fun t165 => (if t165 = true then (some false) else (frame_blocks_may.l0 k (x3.drop 32) x158000 x158001 x158002 x158003))) else (none)) else (if x158002 ≤ 16 then (some ((x158003.length : Int) == (wrap64 (x158002 * 32)))) else (some false))
end
def frame_blocks_may.f (k : Nat) (a0_0 : Int) (a0_1 : Int) (a0_2 : Int) (l0_3 : List Int) : Option (Bool) := (frame_within.f a0_1 0 64).bind fun t158 => (if t158 = true then ((frame_within.f a0_2 1 (wrap64 (64 - a0_1))).bind fun t159 => (frame_blocks_may.j0 k (!t159) a0_0 a0_1 a0_2 l0_3)) else (frame_blocks_may.j0 k true a0_0 a0_1 a0_2 l0_3))
set_option maxHeartbeats 8000000 in
set_option maxRecDepth 100000 in
theorem frame_blocks_may.calls (k : Nat) (a0_0 : Int) (a0_1 : Int) (a0_2 : Int) (P0_3_ : Nat → Prop) (A0_3 : Option Addr) (c0_3 : Nat) (l0_3 : List Int) (r : Bool) (w : World) (hs0_3 : Kd.V (Kd.int .u8) 5 w w.heap.size (fun k_ => P0_3_ k_) (.slice A0_3 l0_3.length c0_3) l0_3) (h : frame_blocks_may.f k a0_0 a0_1 a0_2 l0_3 = some r) :
  Calls Try.prog 112 #[.agg #[.int .i64 a0_0, .int .i64 a0_1, .int .i64 a0_2, .slice A0_3 l0_3.length c0_3]] w fun e w' => e = .returned (.bool r) ∧ Below w.heap.size w w' := by
 have hu95 := Try.underlying95
 have HO0_3 := Aside0.mk (show Kd.V (Kd.int .u8) 5 w w.heap.size (fun k_ => (P0_3_ k_ ∨ w.heap.size ≤ k_)) (.slice A0_3 l0_3.length c0_3) l0_3 from Kd.V_mono hs0_3 (fun k_ hk => .inl hk))
 have HB := Aside0.mk (Below.refl w.heap.size w)
 have H : ((frame_within.f a0_1 0 64).bind fun t158 => (if t158 = true then ((frame_within.f a0_2 1 (wrap64 (64 - a0_1))).bind fun t159 => (frame_blocks_may.j0 k (!t159) a0_0 a0_1 a0_2 l0_3)) else (frame_blocks_may.j0 k true a0_0 a0_1 a0_2 l0_3))) = some r := h
 clear h
 have HC2 := Aside0.mk H
 clear H
 go_enter Try.func112, Try.ntmps112
 go_upto_region 1 with (first | ((with_reducible refine gate_dst (N := 1) rfl ?_); (try (refine gate_guard (by rfl) ?_; dsimp only)); refine Cz.bx (N := 1) #[.int .i64 a0_0, .int .i64 a0_1, .int .i64 a0_2, .slice A0_3 l0_3.length c0_3] 95 ?_; intro gb157 hg w3 hbox hb; have BK157 := Aside0.mk (hbox); have GW157 := Aside0.mk ((Cz.gs hg : w.heap.size ≤ gb157)); have GE157 := GW157; replace HO0_3 := Aside0.mk (Kd.V_below (Kd.V_elderB (by (with_reducible repeat (first | apply Kd.V_alloc | apply Kd.V_drewN | apply Kd.V_drew)); exact HO0_3.out) gb157 (Nat.le_of_eq hg.symm)) hb); replace HB := Cz.bs (w := w) hb; clear hb hbox hg))
 (try simp only [Act.put, Kx.sb, Kx.sz, Kx.ss])
 go_cut [16] (fun v16 wc => ∃ (kq : Nat) (x16_1 : Bool), v16 = .bool x16_1 ∧ Aside0 (frame_blocks_may.j0 kq x16_1 a0_0 a0_1 a0_2 l0_3 = some r) ∧ Aside0 (kq ≤ k) ∧ Aside0 (Kd.V (Kd.int .u8) 5 wc w.heap.size (fun k_ => (P0_3_ k_ ∨ w.heap.size ≤ k_) ∧ k_ ≠ gb157) (.slice A0_3 l0_3.length c0_3) l0_3) ∧ Aside0 (wc.heap[gb157]? = some (.cells #[.int .i64 a0_0, .int .i64 a0_1, .int .i64 a0_2, (.slice A0_3 l0_3.length c0_3)] 95 (0, 0))) ∧ Aside0 (Below w.heap.size w wc))
 case first =>
  have H := HC2.out
  clear HC2
  replace H := Option.bind_eq_some_iff.mp H
  obtain ⟨t158, A40, H⟩ := H
  (try dsimp only at H)
  have A4 := Aside0.mk A40
  clear A40
  by_cases c5 : t158 = true
  ·subst c5
   rw [if_pos rfl] at H
   replace H := Option.bind_eq_some_iff.mp H
   obtain ⟨t159, A60, H⟩ := H
   (try dsimp only at H)
   have A6 := Aside0.mk A60
   clear A60
   have H' := Aside0.mk H
   clear H
   obtain ⟨z7_0, z7_1, z7_2, z7_3, y7_0, y7_1, y7_2, y7_3⟩ := Cz.d4 BK157
   go_wp2_with (first | ((with_reducible refine gate_callee (f := 111) rfl ?_); refine Cz.gL (N := (some 6)) Try.func111 #[.int .i64 a0_1, .int .i64 0, .int .i64 64] ?_; (with_reducible refine (frame_within.calls a0_1 0 64 true _ A4.out).mono ?_); rintro e w' ⟨rfl, ⟨nd, rfl⟩⟩; refine ⟨_, rfl, ?_⟩) | (go_at_call 111; (with_reducible refine (frame_within.calls a0_2 1 (wrap64 (64 - a0_1)) t159 _ A6.out).mono ?_); rintro e w' ⟨rfl, ⟨nd, rfl⟩⟩))
   go_meet
   case rel => exact ⟨_, (!t159), Cz.si, H', ⟨by first | omega | exact Nat.le_refl _⟩, ⟨by (with_reducible repeat (first | apply Kd.V_alloc | apply Kd.V_drewN | apply Kd.V_drew)); exact HO0_3.out⟩, ⟨by (with_reducible repeat (first | refine blk_drewN ?_ _ | refine blk_drew ?_ | refine blk_alloc ?_ _)); exact BK157.out⟩, ⟨Cz.bl (w := w)⟩⟩
  ·replace c5 := Bool.eq_false_iff.mpr c5
   subst c5
   rw [if_neg (show ¬ (false = true) by decide)] at H
   have H' := Aside0.mk H
   clear H
   obtain ⟨z8_0, z8_1, z8_2, z8_3, y8_0, y8_1, y8_2, y8_3⟩ := Cz.d4 BK157
   go_wp2_with (first | ((with_reducible refine gate_callee (f := 111) rfl ?_); refine Cz.gL (N := (some 6)) Try.func111 #[.int .i64 a0_1, .int .i64 0, .int .i64 64] ?_; (with_reducible refine (frame_within.calls a0_1 0 64 false _ A4.out).mono ?_); rintro e w' ⟨rfl, ⟨nd, rfl⟩⟩; refine ⟨_, rfl, ?_⟩))
   go_meet
   case rel => exact ⟨_, (true), Cz.si, H', ⟨by first | omega | exact Nat.le_refl _⟩, ⟨by (with_reducible repeat (first | apply Kd.V_alloc | apply Kd.V_drewN | apply Kd.V_drew)); exact HO0_3.out⟩, ⟨by (with_reducible repeat (first | refine blk_drewN ?_ _ | refine blk_drew ?_ | refine blk_alloc ?_ _)); exact BK157.out⟩, ⟨Cz.bl (w := w)⟩⟩
 case rest =>
  clear HC2
  try clear c1
  try clear p2
  try clear c5
  try clear p6
  try clear z7_0 z7_1 z7_2 z7_3 y7_0 y7_1 y7_2 y7_3
  try clear z8_0 z8_1 z8_2 z8_3 y8_0 y8_1 y8_2 y8_3
  obtain ⟨kq, x16_1, rfl, HA, HJ1, HO_158003, BK157, HB⟩ := hcut
  cases kq with
  | zero => exact absurd HA.out (by simp [frame_blocks_may.j0])
  | succ kj1 =>
   have H := HA.out
   clear HA
   simp only [frame_blocks_may.j0] at H
   by_cases c9 : x16_1 = true
   ·subst c9
    rw [if_pos rfl] at H
    obtain rfl := Option.some.inj H
    go_wp2
    go_ret
    exact ⟨Cz.er, Cz.bl (w := w)⟩
   ·replace c9 := Bool.eq_false_iff.mpr c9
    subst c9
    rw [if_neg (show ¬ (false = true) by decide)] at H
    by_cases c10 : a0_0 = 2
    ·rw [if_pos c10] at H
     have c10b0 : (a0_0 == 2) = true := beq_iff_eq.mpr c10
     have c10b1 : (a0_0 != 2) = false := bne_eq_false_iff_eq.mpr c10
     clear c10
     have H' := Aside0.mk H
     clear H
     obtain ⟨z11_0, z11_1, z11_2, z11_3, y11_0, y11_1, y11_2, y11_3⟩ := Cz.d4 BK157
     go_wp2
     go_loopg [3] kj1 (fun kq v3 w' => ∃ (x3_2 : List Int), Aside0 (frame_blocks_may.l0 kq x3_2 a0_0 a0_1 a0_2 l0_3 = some r) ∧ Aside0 (kq ≤ kj1) ∧ Aside0 (Kd.V (Kd.int .u8) 5 w' w.heap.size (fun k_ => (P0_3_ k_ ∨ w.heap.size ≤ k_) ∧ k_ ≠ gb157) v3 x3_2) ∧ Aside0 (Kd.V (Kd.int .u8) 5 w' w.heap.size (fun k_ => (P0_3_ k_ ∨ w.heap.size ≤ k_) ∧ k_ ≠ gb157) (.slice A0_3 l0_3.length c0_3) l0_3) ∧ Aside0 (w'.heap[gb157]? = some (.cells #[.int .i64 a0_0, .int .i64 a0_1, .int .i64 a0_2, (.slice A0_3 l0_3.length c0_3)] 95 (0, 0))) ∧ Aside0 (Below w.heap.size w w'))
     case atStart => exact ⟨(l0_3), H', ⟨Nat.le_refl _⟩, ⟨by (with_reducible repeat (first | apply Kd.V_alloc | apply Kd.V_drewN | apply Kd.V_drew)); exact HO_158003.out⟩, ⟨by (with_reducible repeat (first | apply Kd.V_alloc | apply Kd.V_drewN | apply Kd.V_drew)); exact HO_158003.out⟩, ⟨by (with_reducible repeat (first | refine blk_drewN ?_ _ | refine blk_drew ?_ | refine blk_alloc ?_ _)); exact BK157.out⟩, ⟨Cz.bl (w := w)⟩⟩
     case round =>
      clear H'
      try clear c1
      try clear p2 p2
      try clear c5
      try clear p6 p6
      try clear c9
      try clear c10
      try clear c10b0
      try clear c10b1
      try clear c11
      try clear z11_0 z11_1 z11_2 z11_3 y11_0 y11_1 y11_2 y11_3
      try clear z7_0 z7_1 z7_2 z7_3 y7_0 y7_1 y7_2 y7_3
      try clear z8_0 z8_1 z8_2 z8_3 y8_0 y8_1 y8_2 y8_3
      obtain ⟨x3_2, HA, HK2, HO_3, HO_158003, BK157, HB⟩ := hrel
      cases gk with
      | zero => exact absurd HA.out (by simp [frame_blocks_may.l0])
      | succ k2 =>
       have H := HA.out
       clear HA
       simp only [frame_blocks_may.l0] at H
       by_cases c12 : (x3_2.length : Int) ≥ 32
       ·rw [if_pos c12] at H
        have c12b0 : decide (32 ≤ (x3_2.length : Int)) = true := decide_eq_true c12
        have c12b1 : decide (32 ≤ x3_2.length) = true := decide_eq_true (by omega)
        clear c12
        by_cases c13 : 32 ≤ (x3_2.length : Int)
        ·rw [if_pos c13] at H
         have c13b0 := eq_true c13
         have c13b1 : decide (32 ≤ (x3_2.length : Int)) = true := decide_eq_true c13
         clear c13
         obtain ⟨y160, hy160⟩ : ∃ y_ : List Int, y_ = (x3_2.take 32) := ⟨_, rfl⟩
         replace H : ((zeros_Is.f y160).bind fun t165 => (if t165 = true then (some false) else (frame_blocks_may.l0 k2 (x3_2.drop 32) a0_0 a0_1 a0_2 l0_3))) = some r := by first | (rw [hy160]; with_reducible exact H) | (have H2_ := (Option.bind_some _ _).symm.trans H; rw [hy160]; with_reducible exact H2_) | (have H2_ := (Option.bind_some _ _).symm.trans H; with_reducible exact H2_) | with_reducible exact H | (rw [hy160]; exact H) | exact H
         have Ny160 := Aside0.mk hy160
         clear hy160
         replace H := Option.bind_eq_some_iff.mp H
         obtain ⟨t165, A140, H⟩ := H
         (try dsimp only at H)
         have A14 := Aside0.mk A140
         clear A140
         by_cases c15 : t165 = true
         ·subst c15
          rw [if_pos rfl] at H
          obtain rfl := Option.some.inj H
          obtain ⟨Ao16, co16, eo16⟩ := Kd.V_slice HO_3.out
          subst eo16
          have q17 : (32 : Int) ≤ ((x3_2.length : Int) : Int) := of_decide_eq_true (by first | (with_reducible assumption) | assumption)
          obtain ⟨i017, hi017, _, hsz17, _⟩ := info_parts info5
          have hroom17 : x3_2.length ≤ co16 := (Kd.V_reads' HO_3.out).2.1
          have hC17 : Kd.F (Kd.int .u8) _ _ Ao16 x3_2.length x3_2 := (Kd.V_at (base := w.heap.size) HO_3.out).2.2
          have hcut17 := cut_to (P := Try.prog) 27 5 .i64 Try.underlying27 hi017 Ao16 x3_2.length co16 32 (by omega) q17 hroom17
          have hr17 := Kd.F_take (m := 32) hC17 (by omega)
          have hy17 : y160.length = (32 : Int).toNat := (by rw [Ny160.out, List.length_take]; omega)
          rw [← Ny160.out] at hr17
          rw [← hy17] at hcut17
          have HO164 := Aside0.mk (show Kd.V (Kd.int .u8) 5 _ w.heap.size _ (.slice Ao16 y160.length co16) y160 from Kd.V_mk (by omega) hr17)
          have HC164 := Aside0.mk (show y160.length ≤ co16 from by omega)
          clear hr17 hC17 hroom17 hi017 hsz17
          have KY17 := Aside0.mk hy17
          clear hy17
          replace q17 := eq_true q17
          go_wp2_with (first | ((with_reducible refine gate_callee (f := 57) rfl ?_); refine Cz.gL (N := (some 33)) Try.func57 #[.slice Ao16 y160.length co16] ?_; (with_reducible refine (zeros_Is.calls _ _ y160 true _ ?side1 ?side2 A14.out).mono ?_); (case side1 => repeat (first | exact (Kd.V_reads' HO164.out).2.2 | (with_reducible refine Kd.C_alloc ?_ _) | (with_reducible refine Kd.C_drewN ?_ _) | (with_reducible refine Kd.C_drew ?_))); (case side2 => exact (Kd.V_reads' HO164.out).2.1); rintro e w' ⟨rfl, ⟨nd, rfl⟩⟩; refine ⟨_, rfl, ?_⟩))
          go_ret
          exact ⟨Cz.er, Cz.bl (w := w)⟩
         ·replace c15 := Bool.eq_false_iff.mpr c15
          subst c15
          rw [if_neg (show ¬ (false = true) by decide)] at H
          have c18b0 := eq_true (of_decide_eq_true (by first | (with_reducible assumption) | assumption) : 32 ≤ (x3_2.length : Int))
          obtain ⟨y166, hy166⟩ : ∃ y_ : List Int, y_ = (x3_2.drop 32) := ⟨_, rfl⟩
          replace H : (frame_blocks_may.l0 k2 y166 a0_0 a0_1 a0_2 l0_3) = some r := by first | (rw [hy166]; with_reducible exact H) | (have H2_ := (Option.bind_some _ _).symm.trans H; rw [hy166]; with_reducible exact H2_) | (have H2_ := (Option.bind_some _ _).symm.trans H; with_reducible exact H2_) | with_reducible exact H | (rw [hy166]; exact H) | exact H
          have Ny166 := Aside0.mk hy166
          clear hy166
          have H' := Aside0.mk H
          clear H
          obtain ⟨Ao19, co19, eo19⟩ := Kd.V_slice HO_3.out
          subst eo19
          have q20 : (32 : Int) ≤ ((x3_2.length : Int) : Int) := of_decide_eq_true (by first | (with_reducible assumption) | assumption)
          obtain ⟨i020, hi020, _, hsz20, _⟩ := info_parts info5
          have hroom20 : x3_2.length ≤ co19 := (Kd.V_reads' HO_3.out).2.1
          have hC20 : Kd.F (Kd.int .u8) _ _ Ao19 x3_2.length x3_2 := (Kd.V_at (base := w.heap.size) HO_3.out).2.2
          have hcut20 := cut_to (P := Try.prog) 27 5 .i64 Try.underlying27 hi020 Ao19 x3_2.length co19 32 (by omega) q20 hroom20
          have hr20 := Kd.F_take (m := 32) hC20 (by omega)
          have hy20 : y160.length = (32 : Int).toNat := (by rw [Ny160.out, List.length_take]; omega)
          rw [← Ny160.out] at hr20
          rw [← hy20] at hcut20
          have HO164 := Aside0.mk (show Kd.V (Kd.int .u8) 5 _ w.heap.size _ (.slice Ao19 y160.length co19) y160 from Kd.V_mk (by omega) hr20)
          have HC164 := Aside0.mk (show y160.length ≤ co19 from by omega)
          clear hr20 hC20 hroom20 hi020 hsz20
          have KY20 := Aside0.mk hy20
          clear hy20
          replace q20 := eq_true q20
          go_wp2_with (first | ((with_reducible refine gate_callee (f := 57) rfl ?_); refine Cz.gL (N := (some 33)) Try.func57 #[.slice Ao19 y160.length co19] ?_; (with_reducible refine (zeros_Is.calls _ _ y160 false _ ?side1 ?side2 A14.out).mono ?_); (case side1 => repeat (first | exact (Kd.V_reads' HO164.out).2.2 | (with_reducible refine Kd.C_alloc ?_ _) | (with_reducible refine Kd.C_drewN ?_ _) | (with_reducible refine Kd.C_drew ?_))); (case side2 => exact (Kd.V_reads' HO164.out).2.1); rintro e w' ⟨rfl, ⟨nd, rfl⟩⟩; refine ⟨_, rfl, ?_⟩; have q21 : (32 : Int) ≤ ((x3_2.length : Int) : Int) := of_decide_eq_true (by first | (with_reducible assumption) | assumption); obtain ⟨i021, hi021, _, hsz21, _⟩ := info_parts info5; have hroom21 : x3_2.length ≤ co19 := (Kd.V_reads' HO_3.out).2.1; have hC21 : Kd.F (Kd.int .u8) _ _ Ao19 x3_2.length x3_2 := (Kd.V_at (base := w.heap.size) HO_3.out).2.2; have hcut21 := cut_from (P := Try.prog) 27 5 .i64 Try.underlying27 hi021 1 hsz21 Ao19 x3_2.length co19 32 (by omega) q21; have hr21 := Kd.F_cut (m := (32 : Int).toNat) (c := co19) hC21 (by omega) hroom21; obtain ⟨A21, hA21⟩ : ∃ A1, A1 = (if co19 = (32 : Int).toNat then Ao19 else (Ao19 : Option Addr).map (·.add ((32 : Int).toNat * 1))) := ⟨_, rfl⟩; obtain ⟨c21, hc21⟩ : ∃ c1, c1 = co19 - (32 : Int).toNat := ⟨_, rfl⟩; have hy21 : y166.length = x3_2.length - (32 : Int).toNat := (by rw [Ny166.out, List.length_drop] <;> omega); rw [show (x3_2).drop (32 : Int).toNat = y166 from Ny166.out.symm] at hr21; replace hr21 : Kd.F (Kd.int .u8) _ _ A21 y166.length y166 := (by rw [hA21]; exact hr21); rw [← hy21, ← hA21, ← hc21] at hcut21; have HO170 := Aside0.mk (show Kd.V (Kd.int .u8) 5 _ w.heap.size _ (.slice A21 y166.length c21) y166 from Kd.V_mk (by rw [hy21, hc21]; exact Nat.sub_le_sub_right hroom21 _) hr21); have HC170 := Aside0.mk (show y166.length ≤ c21 from by rw [hy21, hc21]; exact Nat.sub_le_sub_right hroom21 _); clear hr21 hC21 hroom21 hi021 hsz21 hc21; have KY21 := Aside0.mk hy21; have KA21 := Aside0.mk hA21; clear hy21 hA21; replace q21 := eq_true q21))
          go_roundg k2
          case measure => have := HJ1.out; have := HK2.out; omega
          case rel => exact ⟨(y166), H', ⟨by have := HJ1.out; have := HK2.out; omega⟩, ⟨by (with_reducible repeat (first | apply Kd.V_alloc | apply Kd.V_drewN | apply Kd.V_drew)); exact HO170.out⟩, ⟨by (with_reducible repeat (first | apply Kd.V_alloc | apply Kd.V_drewN | apply Kd.V_drew)); exact HO_158003.out⟩, ⟨by (with_reducible repeat (first | refine blk_drewN ?_ _ | refine blk_drew ?_ | refine blk_alloc ?_ _)); exact BK157.out⟩, ⟨Cz.bl (w := w)⟩⟩
        ·rw [if_neg c13] at H
         exact absurd H (by simp)
       ·rw [if_neg c12] at H
        have c12b0 : decide (32 ≤ (x3_2.length : Int)) = false := decide_eq_false c12
        have c12b1 : decide (32 ≤ x3_2.length) = false := decide_eq_false (by omega)
        clear c12
        by_cases c22 : a0_2 ≤ 16
        ·rw [if_pos c22] at H
         have c22b0 : decide (a0_2 ≤ 16) = true := decide_eq_true c22
         clear c22
         obtain rfl := Option.some.inj H
         obtain ⟨Ao23, co23, eo23⟩ := Kd.V_slice HO_3.out
         subst eo23
         obtain ⟨z24_0, z24_1, z24_2, z24_3, y24_0, y24_1, y24_2, y24_3⟩ := Cz.d4 BK157
         go_wp2
         go_ret
         exact ⟨Cz.er, Cz.bl (w := w)⟩
        ·rw [if_neg c22] at H
         have c22b0 : decide (a0_2 ≤ 16) = false := decide_eq_false c22
         clear c22
         obtain rfl := Option.some.inj H
         obtain ⟨Ao25, co25, eo25⟩ := Kd.V_slice HO_3.out
         subst eo25
         obtain ⟨z26_0, z26_1, z26_2, z26_3, y26_0, y26_1, y26_2, y26_3⟩ := Cz.d4 BK157
         go_wp2
         go_ret
         exact ⟨Cz.er, Cz.bl (w := w)⟩
    ·rw [if_neg c10] at H
     have c10b0 : (a0_0 == 2) = false := beq_eq_false_iff_ne.mpr c10
     have c10b1 : (a0_0 != 2) = true := bne_iff_ne.mpr c10
     obtain rfl := Option.some.inj H
     obtain ⟨z27_0, z27_1, z27_2, z27_3, y27_0, y27_1, y27_2, y27_3⟩ := Cz.d4 BK157
     go_wp2
     go_ret
     exact ⟨Cz.er, Cz.bl (w := w)⟩
def frame_end_may.f (a0_0 : Int) (a0_1 : Int) : Option (Bool) := (frame_within.f a0_0 1 65535).bind fun t172 => (if t172 = true then ((frame_within.f a0_1 0 4294967295).bind fun t173 => (some t173)) else (some false))
set_option maxHeartbeats 8000000 in
set_option maxRecDepth 100000 in
theorem frame_end_may.calls (a0_0 : Int) (a0_1 : Int) (r : Bool) (w : World) (h : frame_end_may.f a0_0 a0_1 = some r) :
  Calls Try.prog 114 #[.agg #[.int .i64 a0_0, .int .i64 a0_1]] w fun e w' => e = .returned (.bool r) ∧ Below w.heap.size w w' := by
 have hu97 := Try.underlying97
 have HB := Aside0.mk (Below.refl w.heap.size w)
 have H : ((frame_within.f a0_0 1 65535).bind fun t172 => (if t172 = true then ((frame_within.f a0_1 0 4294967295).bind fun t173 => (some t173)) else (some false))) = some r := h
 clear h
 replace H := Option.bind_eq_some_iff.mp H
 obtain ⟨t172, A20, H⟩ := H
 (try dsimp only at H)
 have A2 := Aside0.mk A20
 clear A20
 by_cases c3 : t172 = true
 ·subst c3
  rw [if_pos rfl] at H
  replace H := Option.bind_eq_some_iff.mp H
  obtain ⟨t173, A40, H⟩ := H
  (try dsimp only at H)
  have A4 := Aside0.mk A40
  clear A40
  obtain rfl := Option.some.inj H
  go_enter Try.func114, Try.ntmps114
  go_wp2_with (first | ((with_reducible refine gate_dst (N := 1) rfl ?_); refine Cz.bx (N := 1) #[.int .i64 a0_0, .int .i64 a0_1] 97 ?_; intro gb171 hg w5 hbox hb; have BK171 := Aside0.mk (hbox); have GW171 := Aside0.mk ((Cz.gs hg : w.heap.size ≤ gb171)); have GE171 := GW171; replace HB := Cz.bs (w := w) hb; clear hb hbox hg; obtain ⟨z6_0, z6_1, y6_0, y6_1⟩ := Cz.d2 BK171) | ((with_reducible refine gate_callee (f := 111) rfl ?_); refine Cz.gL (N := (some 5)) Try.func111 #[.int .i64 a0_0, .int .i64 1, .int .i64 65535] ?_; (with_reducible refine (frame_within.calls a0_0 1 65535 true _ A2.out).mono ?_); rintro e w' ⟨rfl, ⟨nd, rfl⟩⟩; refine ⟨_, rfl, ?_⟩) | (go_at_call 111; (with_reducible refine (frame_within.calls a0_1 0 4294967295 t173 _ A4.out).mono ?_); rintro e w' ⟨rfl, ⟨nd, rfl⟩⟩))
  go_ret
  exact ⟨Cz.er, Cz.bl (w := w)⟩
 ·replace c3 := Bool.eq_false_iff.mpr c3
  subst c3
  rw [if_neg (show ¬ (false = true) by decide)] at H
  obtain rfl := Option.some.inj H
  go_enter Try.func114, Try.ntmps114
  go_wp2_with (first | ((with_reducible refine gate_dst (N := 1) rfl ?_); refine Cz.bx (N := 1) #[.int .i64 a0_0, .int .i64 a0_1] 97 ?_; intro gb171 hg w7 hbox hb; have BK171 := Aside0.mk (hbox); have GW171 := Aside0.mk ((Cz.gs hg : w.heap.size ≤ gb171)); have GE171 := GW171; replace HB := Cz.bs (w := w) hb; clear hb hbox hg; obtain ⟨z8_0, z8_1, y8_0, y8_1⟩ := Cz.d2 BK171) | ((with_reducible refine gate_callee (f := 111) rfl ?_); refine Cz.gL (N := (some 5)) Try.func111 #[.int .i64 a0_0, .int .i64 1, .int .i64 65535] ?_; (with_reducible refine (frame_within.calls a0_0 1 65535 false _ A2.out).mono ?_); rintro e w' ⟨rfl, ⟨nd, rfl⟩⟩; refine ⟨_, rfl, ?_⟩))
  go_ret
  exact ⟨Cz.er, Cz.bl (w := w)⟩
def frame_head_text.f (a0_0 : Int) (a0_1 : Int) (a0_2 : Int) : Option (List Int × Int) := (le_Pack.f (⟨#[98, 119, 119]⟩ : ByteArray) (([IntKind.u64.wrap (a0_0), IntKind.u64.wrap (a0_1), IntKind.u64.wrap (a0_2)] : List Int))).bind fun bt178 => (some (bt178.1, bt178.2))
set_option maxHeartbeats 8000000 in
set_option maxRecDepth 100000 in
theorem frame_head_text.calls (a0_0 : Int) (a0_1 : Int) (a0_2 : Int) (r1 : List Int) (r2 : Int) (w : World) (h : frame_head_text.f a0_0 a0_1 a0_2 = some (r1, r2)) :
  Calls Try.prog 110 #[.agg #[.int .i64 a0_0, .int .i64 a0_1, .int .i64 a0_2]] w fun e w' => ∃ v0_ : Value, e = .returned (.tuple #[v0_, .int .i64 r2]) ∧ Kd.R (Kd.int .u8) 5 w' w.heap.size (fun _ => True) v0_ r1 ∧ Below w.heap.size w w' := by
 have hu93 := Try.underlying93
 have HB := Aside0.mk (Below.refl w.heap.size w)
 have H : ((le_Pack.f (⟨#[98, 119, 119]⟩ : ByteArray) (([IntKind.u64.wrap (a0_0), IntKind.u64.wrap (a0_1), IntKind.u64.wrap (a0_2)] : List Int))).bind fun bt178 => (some (bt178.1, bt178.2))) = some (r1, r2) := h
 clear h
 obtain ⟨y175, hy175⟩ : ∃ y_ : List Int, y_ = (([IntKind.u64.wrap (a0_0), IntKind.u64.wrap (a0_1), IntKind.u64.wrap (a0_2)] : List Int)) := ⟨_, rfl⟩
 replace H : ((le_Pack.f (⟨#[98, 119, 119]⟩ : ByteArray) y175).bind fun bt178 => (some (bt178.1, bt178.2))) = some (r1, r2) := by first | (rw [hy175]; with_reducible exact H) | (have H2_ := (Option.bind_some _ _).symm.trans H; rw [hy175]; with_reducible exact H2_) | (have H2_ := (Option.bind_some _ _).symm.trans H; with_reducible exact H2_) | with_reducible exact H | (rw [hy175]; exact H) | exact H
 have Ny175 := Aside0.mk hy175
 clear hy175
 replace H := Option.bind_eq_some_iff.mp H
 obtain ⟨⟨t178, t179⟩, A20, H⟩ := H
 (try dsimp only at H)
 have A2 := Aside0.mk A20
 clear A20
 simp only [Option.some.injEq, Prod.mk.injEq] at H
 obtain ⟨rfl, rfl⟩ := H
 go_enter Try.func110, Try.ntmps110
 go_wp2_with (first | ((with_reducible refine gate_dst (N := 1) rfl ?_); refine Cz.bx (N := 1) #[.int .i64 a0_0, .int .i64 a0_1, .int .i64 a0_2] 93 ?_; intro gb174 hg w3 hbox hb; have BK174 := Aside0.mk (hbox); have GW174 := Aside0.mk ((Cz.gs hg : w.heap.size ≤ gb174)); have GE174 := GW174; replace HB := Cz.bs (w := w) hb; clear hb hbox hg; obtain ⟨z4_0, z4_1, z4_2, y4_0, y4_1, y4_2⟩ := Cz.d3 BK174) | ((with_reducible refine gate_dst (N := 13) rfl ?_); refine Kd.R_lit (Kd.int .u64) _ 68 ?hg (N := 13) ?hd (xs := ([IntKind.u64.wrap (a0_0), IntKind.u64.wrap (a0_1), IntKind.u64.wrap (a0_2)] : List Int)) (inner := [.int .u64 (IntKind.u64.wrap (a0_0)), .int .u64 (IntKind.u64.wrap (a0_1)), .int .u64 (IntKind.u64.wrap (a0_2))]) (ok := fun _ => True) (okp := fun _ => True) ?hr ?hp (fun _ hk => hk) trivial (Below.refl _ _) (Nat.le_refl _) (by simp) ?_; (case hd => rfl); (case hg => rfl); (case hr => first | (go_simp; done) | (go_simp; rfl)); (case hp => exact (Reps.one (show Kd.M (Kd.int .u64) _ _ _ (IntKind.u64.wrap (a0_0)) [.int .u64 (IntKind.u64.wrap (a0_0))] from rfl) (Reps.one (show Kd.M (Kd.int .u64) _ _ _ (IntKind.u64.wrap (a0_1)) [.int .u64 (IntKind.u64.wrap (a0_1))] from rfl) (Reps.one (show Kd.M (Kd.int .u64) _ _ _ (IntKind.u64.wrap (a0_2)) [.int .u64 (IntKind.u64.wrap (a0_2))] from rfl) (Reps.none _ _))))); intro v176 w5 ho6 hb hg_ hnew_; clear hg_ hnew_; (first | rw [← Ny175.out] at ho6 | (simp only [Int.reduceToNat] at ho6; rw [← Ny175.out] at ho6)); have HO177 := Aside0.mk (Kd.R_lower ho6 (below_size (Cz.bl (w := w)))); replace BK174 := Cz.bk BK174 hb; replace HB := Cz.bs (w := w) hb; clear hb ho6; obtain ⟨Ao7, co7, eo7⟩ := Kd.R_slice HO177.out; subst eo7) | ((with_reducible refine gate_callee (f := 39) rfl ?_); refine Cz.gL (N := (some 14)) Try.func39 #[.string (⟨#[98, 119, 119]⟩ : ByteArray), .slice Ao7 y175.length co7] ?_; (with_reducible refine (le_Pack.calls (⟨#[98, 119, 119]⟩ : ByteArray) _ _ y175 t178 t179 _ ?side1 ?side2 A2.out).mono ?_); (case side1 => repeat (first | exact (Kd.R_reads' HO177.out).2.2 | (with_reducible refine Kd.C_alloc ?_ _) | (with_reducible refine Kd.C_drewN ?_ _) | (with_reducible refine Kd.C_drew ?_))); (case side2 => exact (Kd.R_reads' HO177.out).2.1); rintro e w8 ⟨v180, rfl, ho0, hb⟩; refine ⟨_, rfl, ?_⟩; have HO181 := Aside0.mk (Kd.R_lower ho0 (below_size (Cz.bl (w := w)))); replace HO177 := Cz.rb HO177 hb; replace BK174 := Cz.bk BK174 hb; replace HB := Cz.bs (w := w) hb; (try clear hb); (try clear ho0)))
 go_ret2
 exact ⟨_, Cz.er, Cz.rh, Cz.bl (w := w)⟩
def frame_blocks_text.f (a0_0 : Int) (a0_1 : Int) (a0_2 : Int) (l0_3 : List Int) : Option (List Int × Int) := (le_Pack.f (⟨#[98, 98]⟩ : ByteArray) (([IntKind.u64.wrap (a0_1), IntKind.u64.wrap (a0_2)] : List Int))).bind fun bt186 => (if bt186.1.length + l0_3.length < 140737488355328 then (some ((bt186.1 ++ l0_3), bt186.2)) else (none))
set_option maxHeartbeats 8000000 in
set_option maxRecDepth 100000 in
theorem frame_blocks_text.calls (a0_0 : Int) (a0_1 : Int) (a0_2 : Int) (A0_3 : Option Addr) (c0_3 : Nat) (l0_3 : List Int) (r1 : List Int) (r2 : Int) (w : World) (hr0_3 : Kd.C (Kd.int .u8) w A0_3 l0_3.length l0_3) (hc0_3 : l0_3.length ≤ c0_3) (h : frame_blocks_text.f a0_0 a0_1 a0_2 l0_3 = some (r1, r2)) :
  Calls Try.prog 113 #[.agg #[.int .i64 a0_0, .int .i64 a0_1, .int .i64 a0_2, .slice A0_3 l0_3.length c0_3]] w fun e w' => ∃ v0_ : Value, e = .returned (.tuple #[v0_, .int .i64 r2]) ∧ Kd.R (Kd.int .u8) 5 w' w.heap.size (fun _ => True) v0_ r1 ∧ Below w.heap.size w w' := by
 have hu95 := Try.underlying95
 have HR0_3 := Aside0.mk hr0_3
 have HC0_3 := Aside0.mk hc0_3
 clear hr0_3 hc0_3
 have HB := Aside0.mk (Below.refl w.heap.size w)
 have H : ((le_Pack.f (⟨#[98, 98]⟩ : ByteArray) (([IntKind.u64.wrap (a0_1), IntKind.u64.wrap (a0_2)] : List Int))).bind fun bt186 => (if bt186.1.length + l0_3.length < 140737488355328 then (some ((bt186.1 ++ l0_3), bt186.2)) else (none))) = some (r1, r2) := h
 clear h
 obtain ⟨y183, hy183⟩ : ∃ y_ : List Int, y_ = (([IntKind.u64.wrap (a0_1), IntKind.u64.wrap (a0_2)] : List Int)) := ⟨_, rfl⟩
 replace H : ((le_Pack.f (⟨#[98, 98]⟩ : ByteArray) y183).bind fun bt186 => (if bt186.1.length + l0_3.length < 140737488355328 then (some ((bt186.1 ++ l0_3), bt186.2)) else (none))) = some (r1, r2) := by first | (rw [hy183]; with_reducible exact H) | (have H2_ := (Option.bind_some _ _).symm.trans H; rw [hy183]; with_reducible exact H2_) | (have H2_ := (Option.bind_some _ _).symm.trans H; with_reducible exact H2_) | with_reducible exact H | (rw [hy183]; exact H) | exact H
 have Ny183 := Aside0.mk hy183
 clear hy183
 replace H := Option.bind_eq_some_iff.mp H
 obtain ⟨⟨t186, t187⟩, A20, H⟩ := H
 (try dsimp only at H)
 have A2 := Aside0.mk A20
 clear A20
 by_cases c3 : t186.length + l0_3.length < 140737488355328
 ·rw [if_pos c3] at H
  have LMc3 := Aside0.mk c3
  clear c3
  obtain ⟨y190, hy190⟩ : ∃ y_ : List Int, y_ = (t186 ++ l0_3) := ⟨_, rfl⟩
  replace H : (some (y190, t187)) = some (r1, r2) := by first | (rw [hy190]; with_reducible exact H) | (have H2_ := (Option.bind_some _ _).symm.trans H; rw [hy190]; with_reducible exact H2_) | (have H2_ := (Option.bind_some _ _).symm.trans H; with_reducible exact H2_) | with_reducible exact H | (rw [hy190]; exact H) | exact H
  have Ny190 := Aside0.mk hy190
  clear hy190
  simp only [Option.some.injEq, Prod.mk.injEq] at H
  obtain ⟨rfl, rfl⟩ := H
  go_enter Try.func113, Try.ntmps113
  go_wp2_with (first | ((with_reducible refine gate_dst (N := 1) rfl ?_); refine Cz.bx (N := 1) #[.int .i64 a0_0, .int .i64 a0_1, .int .i64 a0_2, .slice A0_3 l0_3.length c0_3] 95 ?_; intro gb182 hg w4 hbox hb; have BK182 := Aside0.mk (hbox); have GW182 := Aside0.mk ((Cz.gs hg : w.heap.size ≤ gb182)); have GE182 := GW182; replace HB := Cz.bs (w := w) hb; clear hb hbox hg; obtain ⟨z5_0, z5_1, z5_2, z5_3, y5_0, y5_1, y5_2, y5_3⟩ := Cz.d4 BK182) | ((with_reducible refine gate_dst (N := 13) rfl ?_); refine Kd.R_lit (Kd.int .u64) _ 68 ?hg (N := 13) ?hd (xs := ([IntKind.u64.wrap (a0_1), IntKind.u64.wrap (a0_2)] : List Int)) (inner := [.int .u64 (IntKind.u64.wrap (a0_1)), .int .u64 (IntKind.u64.wrap (a0_2))]) (ok := fun _ => True) (okp := fun _ => True) ?hr ?hp (fun _ hk => hk) trivial (Below.refl _ _) (Nat.le_refl _) (by simp) ?_; (case hd => rfl); (case hg => rfl); (case hr => first | (go_simp; done) | (go_simp; rfl)); (case hp => exact (Reps.one (show Kd.M (Kd.int .u64) _ _ _ (IntKind.u64.wrap (a0_1)) [.int .u64 (IntKind.u64.wrap (a0_1))] from rfl) (Reps.one (show Kd.M (Kd.int .u64) _ _ _ (IntKind.u64.wrap (a0_2)) [.int .u64 (IntKind.u64.wrap (a0_2))] from rfl) (Reps.none _ _)))); intro v184 w6 ho7 hb hg_ hnew_; clear hg_ hnew_; (first | rw [← Ny183.out] at ho7 | (simp only [Int.reduceToNat] at ho7; rw [← Ny183.out] at ho7)); have HO185 := Aside0.mk (Kd.R_lower ho7 (below_size (Cz.bl (w := w)))); replace BK182 := Cz.bk BK182 hb; replace HB := Cz.bs (w := w) hb; clear hb ho7; obtain ⟨Ao8, co8, eo8⟩ := Kd.R_slice HO185.out; subst eo8) | ((with_reducible refine gate_callee (f := 39) rfl ?_); refine Cz.gL (N := (some 14)) Try.func39 #[.string (⟨#[98, 98]⟩ : ByteArray), .slice Ao8 y183.length co8] ?_; (with_reducible refine (le_Pack.calls (⟨#[98, 98]⟩ : ByteArray) _ _ y183 t186 t187 _ ?side1 ?side2 A2.out).mono ?_); (case side1 => repeat (first | exact (Kd.R_reads' HO185.out).2.2 | (with_reducible refine Kd.C_alloc ?_ _) | (with_reducible refine Kd.C_drewN ?_ _) | (with_reducible refine Kd.C_drew ?_))); (case side2 => exact (Kd.R_reads' HO185.out).2.1); rintro e w9 ⟨v188, rfl, ho0, hb⟩; refine ⟨_, rfl, ?_⟩; have HO189 := Aside0.mk (Kd.R_lower ho0 (below_size (Cz.bl (w := w)))); replace HO185 := Cz.rb HO185 hb; replace BK182 := Cz.bk BK182 hb; replace HB := Cz.bs (w := w) hb; (try clear hb); (try clear ho0); obtain ⟨z10_0, z10_1, z10_2, z10_3, y10_0, y10_1, y10_2, y10_3⟩ := Cz.d4 BK182) | ((with_reducible refine gate_builtin (b := .append) (xs := #[.tmp 17, .tmp 19]) rfl ?_); at_builtin; refine Kd.R_append_rows (Kd.int .u8) (w0 := w) w.heap.size rfl (.tmp 17) (.tmp 19) 27 5 (.int .u8 0) 1 rfl Try.underlying27 info5 rfl (by decide) (by omega) v188 t186 l0_3 _ _ _ (fun _ => True) (fun _ => False) rfl rfl ?aO ?aR (fun _ _ h => h) (fun _ h => h.elim) ?aF ?aB ?aS ?aL ?_; (case aR => exact Cz.cb HR0_3); (case aB => exact (Cz.bl (w := w))); (case aF => exact (fun _ _ => trivial)); (case aO => exact (by (with_reducible repeat (first | apply Kd.R_alloc | apply Kd.R_drewN | apply Kd.R_drew)); exact HO189.out)); (case aS => exact (below_size (Cz.bl (w := w)))); (case aL => have := LMc3.out; omega); intro v191 w11 ho hb hg hat; rw [← Ny190.out] at ho; have HO192 := Aside0.mk (ho); replace BK182 := Cz.bw BK182 hg (Kd.R_ne HO189.out BK182.out (by decide)); replace HO185 := Aside0.mk (Kd.R_over' (by (with_reducible repeat (first | apply Kd.R_alloc | apply Kd.R_drewN | apply Kd.R_drew)); exact HO185.out) (Kd.R_typed (by (with_reducible repeat (first | apply Kd.R_alloc | apply Kd.R_drewN | apply Kd.R_drew)); exact HO189.out)) (by decide) hg); replace HB := Aside0.mk (hb); clear HO189; clear ho hb hg hat))
  go_ret2
  exact ⟨_, Cz.er, Cz.rh, Cz.bl (w := w)⟩
 ·rw [if_neg c3] at H
  exact absurd H (by simp)
def frame_end_text.f (a0_0 : Int) (a0_1 : Int) : Option (List Int × Int) := (le_Pack.f (⟨#[104, 119]⟩ : ByteArray) (([IntKind.u64.wrap (a0_0), IntKind.u64.wrap (a0_1)] : List Int))).bind fun bt197 => (some (bt197.1, bt197.2))
set_option maxHeartbeats 8000000 in
set_option maxRecDepth 100000 in
theorem frame_end_text.calls (a0_0 : Int) (a0_1 : Int) (r1 : List Int) (r2 : Int) (w : World) (h : frame_end_text.f a0_0 a0_1 = some (r1, r2)) :
  Calls Try.prog 115 #[.agg #[.int .i64 a0_0, .int .i64 a0_1]] w fun e w' => ∃ v0_ : Value, e = .returned (.tuple #[v0_, .int .i64 r2]) ∧ Kd.R (Kd.int .u8) 5 w' w.heap.size (fun _ => True) v0_ r1 ∧ Below w.heap.size w w' := by
 have hu97 := Try.underlying97
 have HB := Aside0.mk (Below.refl w.heap.size w)
 have H : ((le_Pack.f (⟨#[104, 119]⟩ : ByteArray) (([IntKind.u64.wrap (a0_0), IntKind.u64.wrap (a0_1)] : List Int))).bind fun bt197 => (some (bt197.1, bt197.2))) = some (r1, r2) := h
 clear h
 obtain ⟨y194, hy194⟩ : ∃ y_ : List Int, y_ = (([IntKind.u64.wrap (a0_0), IntKind.u64.wrap (a0_1)] : List Int)) := ⟨_, rfl⟩
 replace H : ((le_Pack.f (⟨#[104, 119]⟩ : ByteArray) y194).bind fun bt197 => (some (bt197.1, bt197.2))) = some (r1, r2) := by first | (rw [hy194]; with_reducible exact H) | (have H2_ := (Option.bind_some _ _).symm.trans H; rw [hy194]; with_reducible exact H2_) | (have H2_ := (Option.bind_some _ _).symm.trans H; with_reducible exact H2_) | with_reducible exact H | (rw [hy194]; exact H) | exact H
 have Ny194 := Aside0.mk hy194
 clear hy194
 replace H := Option.bind_eq_some_iff.mp H
 obtain ⟨⟨t197, t198⟩, A20, H⟩ := H
 (try dsimp only at H)
 have A2 := Aside0.mk A20
 clear A20
 simp only [Option.some.injEq, Prod.mk.injEq] at H
 obtain ⟨rfl, rfl⟩ := H
 go_enter Try.func115, Try.ntmps115
 go_wp2_with (first | ((with_reducible refine gate_dst (N := 1) rfl ?_); refine Cz.bx (N := 1) #[.int .i64 a0_0, .int .i64 a0_1] 97 ?_; intro gb193 hg w3 hbox hb; have BK193 := Aside0.mk (hbox); have GW193 := Aside0.mk ((Cz.gs hg : w.heap.size ≤ gb193)); have GE193 := GW193; replace HB := Cz.bs (w := w) hb; clear hb hbox hg; obtain ⟨z4_0, z4_1, y4_0, y4_1⟩ := Cz.d2 BK193) | ((with_reducible refine gate_dst (N := 10) rfl ?_); refine Kd.R_lit (Kd.int .u64) _ 68 ?hg (N := 10) ?hd (xs := ([IntKind.u64.wrap (a0_0), IntKind.u64.wrap (a0_1)] : List Int)) (inner := [.int .u64 (IntKind.u64.wrap (a0_0)), .int .u64 (IntKind.u64.wrap (a0_1))]) (ok := fun _ => True) (okp := fun _ => True) ?hr ?hp (fun _ hk => hk) trivial (Below.refl _ _) (Nat.le_refl _) (by simp) ?_; (case hd => rfl); (case hg => rfl); (case hr => first | (go_simp; done) | (go_simp; rfl)); (case hp => exact (Reps.one (show Kd.M (Kd.int .u64) _ _ _ (IntKind.u64.wrap (a0_0)) [.int .u64 (IntKind.u64.wrap (a0_0))] from rfl) (Reps.one (show Kd.M (Kd.int .u64) _ _ _ (IntKind.u64.wrap (a0_1)) [.int .u64 (IntKind.u64.wrap (a0_1))] from rfl) (Reps.none _ _)))); intro v195 w5 ho6 hb hg_ hnew_; clear hg_ hnew_; (first | rw [← Ny194.out] at ho6 | (simp only [Int.reduceToNat] at ho6; rw [← Ny194.out] at ho6)); have HO196 := Aside0.mk (Kd.R_lower ho6 (below_size (Cz.bl (w := w)))); replace BK193 := Cz.bk BK193 hb; replace HB := Cz.bs (w := w) hb; clear hb ho6; obtain ⟨Ao7, co7, eo7⟩ := Kd.R_slice HO196.out; subst eo7) | ((with_reducible refine gate_callee (f := 39) rfl ?_); refine Cz.gL (N := (some 11)) Try.func39 #[.string (⟨#[104, 119]⟩ : ByteArray), .slice Ao7 y194.length co7] ?_; (with_reducible refine (le_Pack.calls (⟨#[104, 119]⟩ : ByteArray) _ _ y194 t197 t198 _ ?side1 ?side2 A2.out).mono ?_); (case side1 => repeat (first | exact (Kd.R_reads' HO196.out).2.2 | (with_reducible refine Kd.C_alloc ?_ _) | (with_reducible refine Kd.C_drewN ?_ _) | (with_reducible refine Kd.C_drew ?_))); (case side2 => exact (Kd.R_reads' HO196.out).2.1); rintro e w8 ⟨v199, rfl, ho0, hb⟩; refine ⟨_, rfl, ?_⟩; have HO200 := Aside0.mk (Kd.R_lower ho0 (below_size (Cz.bl (w := w)))); replace HO196 := Cz.rb HO196 hb; replace BK193 := Cz.bk BK193 hb; replace HB := Cz.bs (w := w) hb; (try clear hb); (try clear ho0)))
 go_ret2
 exact ⟨_, Cz.er, Cz.rh, Cz.bl (w := w)⟩
end Go.Proofs.Ytohkmmbmfhficaa.PM
