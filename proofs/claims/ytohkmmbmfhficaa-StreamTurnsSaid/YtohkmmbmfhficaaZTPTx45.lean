/- Words and walks that this claim names, of those that the kit's print and programs of this workplace have printed. -/
import Derived.Test.YtohkmmbmfhficaaZTCz
import Derived.Test.YtohkmmbmfhficaaZTPTx5
import Derived.Test.YtohkmmbmfhficaaZTPTx38
namespace Go.Proofs.Ytohkmmbmfhficaa.PT
open Go.Proofs.Ytohkmmbmfhficaa Go.RowKit Go.Proofs.YtohkmmbmfhficaaW.PrintWords Go.Proofs.YtohkmmbmfhficaaW.PrintLast Go.Proofs.YtohkmmbmfhficaaW.PrintMore
attribute [local go_sem] max2_int min2_int max_two min_two max_three min_three max_four min_four
set_option linter.unusedVariables false
set_option linter.unusedSimpArgs false
def zeros_Is_p.l0 : Nat → List Int → Int → Int → Option (Bool)
 | 0, _, _, _ => none
 | k + 1, x5, x6, x7 => if x7 < x6 then (if 0 ≤ x7 then (if x7 < (x5.length : Int) then (if (rd x5 x7) = 0 then (zeros_Is_p.l0 k x5 x6 (wrap64 (x7 + 1))) else (some false)) else (none)) else (none)) else (some true)
def zeros_Is_p.f (k : Nat) (l0 : List Int) : Option (Bool) := zeros_Is_p.l0 k l0 (l0.length : Int) 0
set_option maxHeartbeats 8000000 in
set_option maxRecDepth 100000 in
theorem zeros_Is_p.calls (k : Nat) (A0 : Option Addr) (c0 : Nat) (l0 : List Int) (r : Bool) (w : World) (hr0 : Kd.C (Kd.int .u8) w A0 l0.length l0) (hc0 : l0.length ≤ c0) (h : zeros_Is_p.f k l0 = some r) :
  Calls Try.prog 57 #[.slice A0 l0.length c0] w fun e w' => e = .returned (.bool r) ∧ Drawn0 w w' := by
 have HR0 := Aside0.mk hr0
 have HC0 := Aside0.mk hc0
 clear hr0 hc0
 have H : (zeros_Is_p.l0 k l0 (l0.length : Int) 0) = some r := h
 clear h
 have H' := Aside0.mk H
 clear H
 go_enter Try.func57, Try.ntmps57
 go_wp2
 go_loopg [7] k (fun kq v7 w' => ∃ (x0_1 : Int), v7 = .int .i64 x0_1 ∧ Aside0 (zeros_Is_p.l0 kq l0 (l0.length : Int) x0_1 = some r) ∧ Aside0 (kq ≤ k) ∧ Drawn0 w w')
 case atStart => exact ⟨(0), Cz.si, H', ⟨Nat.le_refl _⟩, by repeat (first | exact Drawn0.refl _ | apply Drawn0.step)⟩
 case round =>
  clear H'
  obtain ⟨x0_1, rfl, HA, HK0, ⟨m1, rfl⟩⟩ := hrel
  cases gk with
  | zero => exact absurd HA.out (by simp [zeros_Is_p.l0])
  | succ k1 =>
   have H := HA.out
   clear HA
   simp only [zeros_Is_p.l0] at H
   by_cases c2 : x0_1 < (l0.length : Int)
   rotate_left
   ·rw [if_neg c2] at H
    have c2b0 : decide (x0_1 < (l0.length : Int)) = false := decide_eq_false c2
    clear c2
    obtain rfl := Option.some.inj H
    go_wp2
    go_ret
    exact ⟨by first | rfl | (simp; done) | (simp [*]; done), by repeat (first | exact Drawn0.refl _ | apply Drawn0.step)⟩
   rw [if_pos c2] at H
   have c2b0 : decide (x0_1 < (l0.length : Int)) = true := decide_eq_true c2
   clear c2
   by_cases c3 : 0 ≤ x0_1
   rotate_left
   ·rw [if_neg c3] at H
    exact absurd H (by simp)
   rw [if_pos c3] at H
   have c3b0 : decide (0 ≤ x0_1) = true := decide_eq_true c3
   clear c3
   by_cases c4 : x0_1 < (l0.length : Int)
   rotate_left
   ·rw [if_neg c4] at H
    exact absurd H (by simp)
   rw [if_pos c4] at H
   have c4b0 : decide (x0_1 < (l0.length : Int)) = true := decide_eq_true c4
   clear c4
   by_cases c5 : (rd l0 x0_1) = 0
   focus
    rw [if_pos c5] at H
    have c5b0 : ((rd l0 x0_1) == 0) = true := beq_iff_eq.mpr c5
    have c5b1 : ((rd l0 x0_1) != 0) = false := bne_eq_false_iff_eq.mpr c5
    clear c5
    have H' := Aside0.mk H
    clear H
   rotate_left
   focus
    rw [if_neg c5] at H
    have c5b0 : ((rd l0 x0_1) == 0) = false := beq_eq_false_iff_ne.mpr c5
    have c5b1 : ((rd l0 x0_1) != 0) = true := bne_iff_ne.mpr c5
    obtain rfl := Option.some.inj H
   rotate_left
   all_goals
    have p0 : 0 ≤ (x0_1 : Int) := of_decide_eq_true (by first | (with_reducible assumption) | assumption)
    have q0 : x0_1 < (l0.length : Int) := of_decide_eq_true (by first | (with_reducible assumption) | assumption)
    obtain ⟨ad0, e0, hx0_0⟩ := Kd.at_int HR0.out x0_1 p0 q0
    cases e0
    replace p0 := eq_true p0
    replace q0 := eq_true q0
    go_wp2
   ·go_roundg k1
    case measure => have := HK0.out; omega
    case rel => exact ⟨(wrap64 (x0_1 + 1)), Cz.si, H', ⟨by have := HK0.out; omega⟩, by repeat (first | exact Drawn0.refl _ | apply Drawn0.step)⟩
   ·go_ret
    exact ⟨by first | rfl | (simp; done) | (simp [*]; done), by repeat (first | exact Drawn0.refl _ | apply Drawn0.step)⟩
def zeros_Is.f (l0 : List Int) : Option Bool := if l0.length < 1073741824 then some (Pl.zeroB l0) else none
theorem zeros_Is.tells {l0 : List Int} (h : l0.length < 1073741824) : zeros_Is.f l0 = some (Pl.zeroB l0) := if_pos h
theorem zeros_Is.loop {l : List Int} (h : l.length < 1073741824) : ∀ (d k i : Nat), l.length - i = d → i ≤ l.length → d < k → zeros_Is_p.l0 k l (l.length : Int) (i : Int) = some (Pl.zeroB (l.drop i))
 | 0, k, i, hd, hi, hk => by
  obtain ⟨k, rfl⟩ : ∃ m, k = m + 1 := ⟨k - 1, by omega⟩
  rw [zeros_Is_p.l0, if_neg (by omega), List.drop_of_length_le (by omega)]
  rfl
 | d + 1, k, i, hd, hi, hk => by
  obtain ⟨k, rfl⟩ : ∃ m, k = m + 1 := ⟨k - 1, by omega⟩
  have hi0 : i < l.length := by omega
  rw [zeros_Is_p.l0, if_pos (by omega), if_pos (by omega), if_pos (by omega), show rd l (i : Int) = l[i] by simp [rd, hi0], List.drop_eq_getElem_cons hi0, Pl.zeroB, List.all_cons]
  by_cases h0 : l[i] = 0
  ·rw [if_pos h0, show wrap64 ((i : Int) + 1) = ((i + 1 : Nat) : Int) by unfold wrap64; omega, zeros_Is.loop h d k (i + 1) (by omega) (by omega) (by omega), decide_eq_true h0, Bool.true_and]
   rfl
  rw [if_neg h0, decide_eq_false h0, Bool.false_and]
theorem zeros_Is.closes {l0 : List Int} {r : Bool} (h : zeros_Is.f l0 = some r) : zeros_Is_p.f (l0.length + 1) l0 = some r := by
 unfold zeros_Is.f at h
 split at h
 case isFalse => cases h
 rename_i hh
 rw [← h]
 unfold zeros_Is_p.f
 have := zeros_Is.loop hh l0.length (l0.length + 1) 0 (by omega) (by omega) (by omega)
 rwa [List.drop_zero] at this
def stream_Zeros.f (l : List Int) : Option Bool := some (Pl.zerS l)
theorem zeros_Is.calls (A0 : Option Addr) (c0 : Nat) (l0 : List Int) (r : Bool) (w : World) (hr0 : Kd.C (Kd.int .u8) w A0 l0.length l0) (hc0 : l0.length ≤ c0) (h : zeros_Is.f l0 = some r) :
  Calls Try.prog 57 #[.slice A0 l0.length c0] w fun e w' => e = .returned (.bool r) ∧ Drawn0 w w' :=
 zeros_Is_p.calls (l0.length + 1) A0 c0 l0 r w hr0 hc0 (zeros_Is.closes h)
mutual
def frame_blocks_may.j0 : Nat → Bool → Int → Int → Int → List Int → Option (Bool)
 | 0, _, _, _, _, _ => none
 | k + 1, x16, x158000, x158001, x158002, x158003 => if x16 = true then (some false) else (if x158000 = 2 then (frame_blocks_may.l0 k x158003 x158000 x158001 x158002 x158003) else (some ((x158003.length : Int) == 0)))
def frame_blocks_may.l0 : Nat → List Int → Int → Int → Int → List Int → Option (Bool)
 | 0, _, _, _, _, _ => none
 | k + 1, x3, x158000, x158001, x158002, x158003 => if (x3.length : Int) ≥ 32 then (if 32 ≤ (x3.length : Int) then ((zeros_Is.f (x3.take 32)).bind fun t165 => (if t165 = true then (some false) else (frame_blocks_may.l0 k (x3.drop 32) x158000 x158001 x158002 x158003))) else (none)) else (if x158002 ≤ 16 then (some ((x158003.length : Int) == (wrap64 (x158002 * 32)))) else (some false))
end
def frame_blocks_may.f (k : Nat) (a0_0 : Int) (a0_1 : Int) (a0_2 : Int) (l0_3 : List Int) : Option (Bool) := (frame_within.f a0_1 0 64).bind fun t158 => (if t158 = true then ((frame_within.f a0_2 1 (wrap64 (64 - a0_1))).bind fun t159 => (frame_blocks_may.j0 k (!t159) a0_0 a0_1 a0_2 l0_3)) else (frame_blocks_may.j0 k true a0_0 a0_1 a0_2 l0_3))
set_option maxHeartbeats 8000000 in
set_option maxRecDepth 100000 in
theorem frame_blocks_may.calls (k : Nat) (a0_0 : Int) (a0_1 : Int) (a0_2 : Int) (P0_3_ : Nat → Prop) (A0_3 : Option Addr) (c0_3 : Nat) (l0_3 : List Int) (r : Bool) (w : World) (hs0_3 : Kd.V (Kd.int .u8) 5 w w.heap.size (fun k_ => P0_3_ k_) (.slice A0_3 l0_3.length c0_3) l0_3) (h : frame_blocks_may.f k a0_0 a0_1 a0_2 l0_3 = some r) :
  Calls Try.prog 112 #[.agg #[.int .i64 a0_0, .int .i64 a0_1, .int .i64 a0_2, .slice A0_3 l0_3.length c0_3]] w fun e w' => e = .returned (.bool r) ∧ Below w.heap.size w w' := by
 have hu0 := Try.underlying95
 have HO0_3 := Aside0.mk (show Kd.V (Kd.int .u8) 5 w w.heap.size (fun k_ => (P0_3_ k_ ∨ w.heap.size ≤ k_)) (.slice A0_3 l0_3.length c0_3) l0_3 from Kd.V_mono hs0_3 (fun k_ hk => .inl hk))
 have HB := Aside0.mk (Below.refl w.heap.size w)
 have H : ((frame_within.f a0_1 0 64).bind fun t0 => (if t0 = true then ((frame_within.f a0_2 1 (wrap64 (64 - a0_1))).bind fun t159 => (frame_blocks_may.j0 k (!t159) a0_0 a0_1 a0_2 l0_3)) else (frame_blocks_may.j0 k true a0_0 a0_1 a0_2 l0_3))) = some r := h
 clear h
 have HC0 := Aside0.mk H
 clear H
 go_enter Try.func112, Try.ntmps112
 go_upto_region 1 with (first | ((with_reducible refine gate_dst (N := 1) rfl ?_); (try (refine gate_guard (by rfl) ?_; dsimp only)); refine Cz.bx (N := 1) #[.int .i64 a0_0, .int .i64 a0_1, .int .i64 a0_2, .slice A0_3 l0_3.length c0_3] 95 ?_; intro gb0 hg w3 hbox hb; have BK0 := Aside0.mk (hbox); have GW0 := Aside0.mk ((Cz.gs hg : w.heap.size ≤ gb0)); have GE0 := GW0; replace HO0_3 := Aside0.mk (Kd.V_below (Kd.V_elderB (by (with_reducible repeat (first | apply Kd.V_alloc | apply Kd.V_drewN | apply Kd.V_drew)); exact HO0_3.out) gb0 (Nat.le_of_eq hg.symm)) hb); replace HB := Cz.bs (w := w) hb; clear hb hbox hg))
 (try simp only [Act.put, Kx.sb, Kx.sz, Kx.ss])
 go_cut [16] (fun v16 wc => ∃ (kq : Nat) (x0_1 : Bool), v16 = .bool x0_1 ∧ Aside0 (frame_blocks_may.j0 kq x0_1 a0_0 a0_1 a0_2 l0_3 = some r) ∧ Aside0 (kq ≤ k) ∧ Aside0 (Kd.V (Kd.int .u8) 5 wc w.heap.size (fun k_ => (P0_3_ k_ ∨ w.heap.size ≤ k_) ∧ k_ ≠ gb0) (.slice A0_3 l0_3.length c0_3) l0_3) ∧ Aside0 (wc.heap[gb0]? = some (.cells #[.int .i64 a0_0, .int .i64 a0_1, .int .i64 a0_2, (.slice A0_3 l0_3.length c0_3)] 95 (0, 0))) ∧ Aside0 (Below w.heap.size w wc))
 case first =>
  have H := HC0.out
  clear HC0
  replace H := Option.bind_eq_some_iff.mp H
  obtain ⟨t0, A2, H⟩ := H
  (try dsimp only at H)
  have A4 := Aside0.mk A2
  clear A2
  by_cases c5 : t0 = true
  focus
   subst c5
   rw [if_pos rfl] at H
   replace H := Option.bind_eq_some_iff.mp H
   obtain ⟨t159, A3, H⟩ := H
   (try dsimp only at H)
   have A6 := Aside0.mk A3
   clear A3
  rotate_left
  focus
   replace c5 := Bool.eq_false_iff.mpr c5
   subst c5
   rw [if_neg (show ¬ (false = true) by decide)] at H
  rotate_left
  all_goals
   have H' := Aside0.mk H
   clear H
   obtain ⟨z0_0, z0_1, z0_2, z0_3, y0_0, y0_1, y0_2, y0_3⟩ := Cz.d4 BK0
  ·go_wp2_with (first | ((with_reducible refine gate_callee (f := 111) rfl ?_); refine Cz.gL (N := (some 6)) Try.func111 #[.int .i64 a0_1, .int .i64 0, .int .i64 64] ?_; (with_reducible refine (frame_within.calls a0_1 0 64 true _ A4.out).mono ?_); rintro e w' ⟨rfl, ⟨nd, rfl⟩⟩; refine ⟨_, rfl, ?_⟩) | (go_at_call 111; (with_reducible refine (frame_within.calls a0_2 1 (wrap64 (64 - a0_1)) t159 _ A6.out).mono ?_); rintro e w' ⟨rfl, ⟨nd, rfl⟩⟩))
   go_meet
   case rel => exact ⟨_, (!t159), Cz.si, H', ⟨by first | omega | exact Nat.le_refl _⟩, ⟨by (with_reducible repeat (first | apply Kd.V_alloc | apply Kd.V_drewN | apply Kd.V_drew)); exact HO0_3.out⟩, ⟨by (with_reducible repeat (first | refine blk_drewN ?_ _ | refine blk_drew ?_ | refine blk_alloc ?_ _)); exact BK0.out⟩, ⟨Cz.bl (w := w)⟩⟩
  ·go_wp2_with (first | ((with_reducible refine gate_callee (f := 111) rfl ?_); refine Cz.gL (N := (some 6)) Try.func111 #[.int .i64 a0_1, .int .i64 0, .int .i64 64] ?_; (with_reducible refine (frame_within.calls a0_1 0 64 false _ A4.out).mono ?_); rintro e w' ⟨rfl, ⟨nd, rfl⟩⟩; refine ⟨_, rfl, ?_⟩))
   go_meet
   case rel => exact ⟨_, (true), Cz.si, H', ⟨by first | omega | exact Nat.le_refl _⟩, ⟨by (with_reducible repeat (first | apply Kd.V_alloc | apply Kd.V_drewN | apply Kd.V_drew)); exact HO0_3.out⟩, ⟨by (with_reducible repeat (first | refine blk_drewN ?_ _ | refine blk_drew ?_ | refine blk_alloc ?_ _)); exact BK0.out⟩, ⟨Cz.bl (w := w)⟩⟩
 case rest =>
  clear HC0
  try clear c1
  try clear p2
  try clear c5
  try clear p0
  try clear z0_0 z0_1 z0_2 z0_3 y0_0 y0_1 y0_2 y0_3
  try clear z1_0 z1_1 z1_2 z1_3 y1_0 y1_1 y1_2 y1_3
  obtain ⟨kq, x0_1, rfl, HA, HJ0, HO_0, BK0, HB⟩ := hcut
  cases kq with
  | zero => exact absurd HA.out (by simp [frame_blocks_may.j0])
  | succ kj0 =>
   have H := HA.out
   clear HA
   simp only [frame_blocks_may.j0] at H
   by_cases c9 : x0_1 = true
   ·subst c9
    rw [if_pos rfl] at H
    obtain rfl := Option.some.inj H
    go_wp2
    go_ret
    exact ⟨Cz.er, Cz.bl (w := w)⟩
   replace c9 := Bool.eq_false_iff.mpr c9
   subst c9
   rw [if_neg (show ¬ (false = true) by decide)] at H
   by_cases c10 : a0_0 = 2
   rotate_left
   ·rw [if_neg c10] at H
    have c10b0 : (a0_0 == 2) = false := beq_eq_false_iff_ne.mpr c10
    have c10b1 : (a0_0 != 2) = true := bne_iff_ne.mpr c10
    obtain rfl := Option.some.inj H
    obtain ⟨z2_0, z2_1, z2_2, z2_3, y2_0, y2_1, y2_2, y2_3⟩ := Cz.d4 BK0
    go_wp2
    go_ret
    exact ⟨Cz.er, Cz.bl (w := w)⟩
   rw [if_pos c10] at H
   have c10b0 : (a0_0 == 2) = true := beq_iff_eq.mpr c10
   have c10b1 : (a0_0 != 2) = false := bne_eq_false_iff_eq.mpr c10
   clear c10
   have H' := Aside0.mk H
   clear H
   obtain ⟨z2_0, z2_1, z2_2, z2_3, y2_0, y2_1, y2_2, y2_3⟩ := Cz.d4 BK0
   go_wp2
   go_loopg [3] kj0 (fun kq v3 w' => ∃ (x1_2 : List Int), Aside0 (frame_blocks_may.l0 kq x1_2 a0_0 a0_1 a0_2 l0_3 = some r) ∧ Aside0 (kq ≤ kj0) ∧ Aside0 (Kd.V (Kd.int .u8) 5 w' w.heap.size (fun k_ => (P0_3_ k_ ∨ w.heap.size ≤ k_) ∧ k_ ≠ gb0) v3 x1_2) ∧ Aside0 (Kd.V (Kd.int .u8) 5 w' w.heap.size (fun k_ => (P0_3_ k_ ∨ w.heap.size ≤ k_) ∧ k_ ≠ gb0) (.slice A0_3 l0_3.length c0_3) l0_3) ∧ Aside0 (w'.heap[gb0]? = some (.cells #[.int .i64 a0_0, .int .i64 a0_1, .int .i64 a0_2, (.slice A0_3 l0_3.length c0_3)] 95 (0, 0))) ∧ Aside0 (Below w.heap.size w w'))
   case atStart => exact ⟨(l0_3), H', ⟨Nat.le_refl _⟩, ⟨by (with_reducible repeat (first | apply Kd.V_alloc | apply Kd.V_drewN | apply Kd.V_drew)); exact HO_0.out⟩, ⟨by (with_reducible repeat (first | apply Kd.V_alloc | apply Kd.V_drewN | apply Kd.V_drew)); exact HO_0.out⟩, ⟨by (with_reducible repeat (first | refine blk_drewN ?_ _ | refine blk_drew ?_ | refine blk_alloc ?_ _)); exact BK0.out⟩, ⟨Cz.bl (w := w)⟩⟩
   case round =>
    clear H'
    try clear c1
    try clear p2 p2
    try clear c5
    try clear p0 p0
    try clear c9
    try clear c10
    try clear c10b0
    try clear c10b1
    try clear c11
    try clear z2_0 z2_1 z2_2 z2_3 y2_0 y2_1 y2_2 y2_3
    try clear z0_0 z0_1 z0_2 z0_3 y0_0 y0_1 y0_2 y0_3
    try clear z1_0 z1_1 z1_2 z1_3 y1_0 y1_1 y1_2 y1_3
    obtain ⟨x1_2, HA, HK0, HO_1, HO_0, BK0, HB⟩ := hrel
    cases gk with
    | zero => exact absurd HA.out (by simp [frame_blocks_may.l0])
    | succ k2 =>
     have H := HA.out
     clear HA
     simp only [frame_blocks_may.l0] at H
     by_cases c12 : (x1_2.length : Int) ≥ 32
     rotate_left
     ·rw [if_neg c12] at H
      have c12b0 : decide (32 ≤ (x1_2.length : Int)) = false := decide_eq_false c12
      have c12b1 : decide (32 ≤ x1_2.length) = false := decide_eq_false (by omega)
      clear c12
      by_cases c2 : a0_2 ≤ 16
      focus
       rw [if_pos c2] at H
       have c2b0 : decide (a0_2 ≤ 16) = true := decide_eq_true c2
      rotate_left
      focus
       rw [if_neg c2] at H
       have c2b0 : decide (a0_2 ≤ 16) = false := decide_eq_false c2
      rotate_left
      all_goals
       clear c2
       obtain rfl := Option.some.inj H
       obtain ⟨Ao0, co0, eo0⟩ := Kd.V_slice HO_1.out
       subst eo0
       obtain ⟨z3_0, z3_1, z3_2, z3_3, y3_0, y3_1, y3_2, y3_3⟩ := Cz.d4 BK0
       go_wp2
       go_ret
       exact ⟨Cz.er, Cz.bl (w := w)⟩
     rw [if_pos c12] at H
     have c12b0 : decide (32 ≤ (x1_2.length : Int)) = true := decide_eq_true c12
     have c12b1 : decide (32 ≤ x1_2.length) = true := decide_eq_true (by omega)
     clear c12
     by_cases c13 : 32 ≤ (x1_2.length : Int)
     rotate_left
     ·rw [if_neg c13] at H
      exact absurd H (by simp)
     rw [if_pos c13] at H
     have c13b0 := eq_true c13
     have c13b1 : decide (32 ≤ (x1_2.length : Int)) = true := decide_eq_true c13
     clear c13
     obtain ⟨y3, hy0⟩ : ∃ y_ : List Int, y_ = (x1_2.take 32) := ⟨_, rfl⟩
     replace H : ((zeros_Is.f y3).bind fun t1 => (if t1 = true then (some false) else (frame_blocks_may.l0 k2 (x1_2.drop 32) a0_0 a0_1 a0_2 l0_3))) = some r := by first | (rw [hy0]; with_reducible exact H) | (have H0_ := (Option.bind_some _ _).symm.trans H; rw [hy0]; with_reducible exact H0_) | (have H0_ := (Option.bind_some _ _).symm.trans H; with_reducible exact H0_) | with_reducible exact H | (rw [hy0]; exact H) | exact H
     have Ny0 := Aside0.mk hy0
     clear hy0
     replace H := Option.bind_eq_some_iff.mp H
     obtain ⟨t1, A3, H⟩ := H
     (try dsimp only at H)
     have A5 := Aside0.mk A3
     clear A3
     by_cases c15 : t1 = true
     focus
      subst c15
      rw [if_pos rfl] at H
      obtain rfl := Option.some.inj H
     rotate_left
     focus
      replace c15 := Bool.eq_false_iff.mpr c15
      subst c15
      rw [if_neg (show ¬ (false = true) by decide)] at H
      have c2b0 := eq_true (of_decide_eq_true (by first | (with_reducible assumption) | assumption) : 32 ≤ (x1_2.length : Int))
      obtain ⟨y4, hy1⟩ : ∃ y_ : List Int, y_ = (x1_2.drop 32) := ⟨_, rfl⟩
      replace H : (frame_blocks_may.l0 k2 y4 a0_0 a0_1 a0_2 l0_3) = some r := by first | (rw [hy1]; with_reducible exact H) | (have H0_ := (Option.bind_some _ _).symm.trans H; rw [hy1]; with_reducible exact H0_) | (have H0_ := (Option.bind_some _ _).symm.trans H; with_reducible exact H0_) | with_reducible exact H | (rw [hy1]; exact H) | exact H
      have Ny1 := Aside0.mk hy1
      clear hy1
      have H' := Aside0.mk H
      clear H
     rotate_left
     all_goals
      obtain ⟨Ao0, co0, eo0⟩ := Kd.V_slice HO_1.out
      subst eo0
      have q0 : (32 : Int) ≤ ((x1_2.length : Int) : Int) := of_decide_eq_true (by first | (with_reducible assumption) | assumption)
      obtain ⟨i0, hi0, _, hsz0, _⟩ := info_parts info5
      have hroom0 : x1_2.length ≤ co0 := (Kd.V_reads' HO_1.out).2.1
      have hC0 : Kd.F (Kd.int .u8) _ _ Ao0 x1_2.length x1_2 := (Kd.V_at (base := w.heap.size) HO_1.out).2.2
      have hcut0 := cut_to (P := Try.prog) 27 5 .i64 Try.underlying27 hi0 Ao0 x1_2.length co0 32 (by omega) q0 hroom0
      have hr0 := Kd.F_take (m := 32) hC0 (by omega)
     focus
      have hy1 : y3.length = (32 : Int).toNat := (by rw [Ny0.out, List.length_take]; omega)
      rw [← Ny0.out] at hr0
      rw [← hy1] at hcut0
     rotate_left
     focus
      have hy2 : y3.length = (32 : Int).toNat := (by rw [Ny0.out, List.length_take]; omega)
      rw [← Ny0.out] at hr0
      rw [← hy2] at hcut0
     rotate_left
     all_goals
      have HO1 := Aside0.mk (show Kd.V (Kd.int .u8) 5 _ w.heap.size _ (.slice Ao0 y3.length co0) y3 from Kd.V_mk (by omega) hr0)
      have HC1 := Aside0.mk (show y3.length ≤ co0 from by omega)
      clear hr0 hC0 hroom0 hi0 hsz0
     ·have KY0 := Aside0.mk hy1
      clear hy1
      replace q0 := eq_true q0
      go_wp2_with (first | ((with_reducible refine gate_callee (f := 57) rfl ?_); refine Cz.gL (N := (some 33)) Try.func57 #[.slice Ao0 y3.length co0] ?_; (with_reducible refine (zeros_Is.calls _ _ y3 true _ ?side0 ?side1 A5.out).mono ?_); (case side0 => repeat (first | exact (Kd.V_reads' HO1.out).2.2 | (with_reducible refine Kd.C_alloc ?_ _) | (with_reducible refine Kd.C_drewN ?_ _) | (with_reducible refine Kd.C_drew ?_))); (case side1 => exact (Kd.V_reads' HO1.out).2.1); rintro e w' ⟨rfl, ⟨nd, rfl⟩⟩; refine ⟨_, rfl, ?_⟩))
      go_ret
      exact ⟨Cz.er, Cz.bl (w := w)⟩
     ·have KY0 := Aside0.mk hy2
      clear hy2
      replace q0 := eq_true q0
      go_wp2_with (first | ((with_reducible refine gate_callee (f := 57) rfl ?_); refine Cz.gL (N := (some 33)) Try.func57 #[.slice Ao0 y3.length co0] ?_; (with_reducible refine (zeros_Is.calls _ _ y3 false _ ?side0 ?side1 A5.out).mono ?_); (case side0 => repeat (first | exact (Kd.V_reads' HO1.out).2.2 | (with_reducible refine Kd.C_alloc ?_ _) | (with_reducible refine Kd.C_drewN ?_ _) | (with_reducible refine Kd.C_drew ?_))); (case side1 => exact (Kd.V_reads' HO1.out).2.1); rintro e w' ⟨rfl, ⟨nd, rfl⟩⟩; refine ⟨_, rfl, ?_⟩; have q1 : (32 : Int) ≤ ((x1_2.length : Int) : Int) := of_decide_eq_true (by first | (with_reducible assumption) | assumption); obtain ⟨i1, hi1, _, hsz1, _⟩ := info_parts info5; have hroom1 : x1_2.length ≤ co0 := (Kd.V_reads' HO_1.out).2.1; have hC1 : Kd.F (Kd.int .u8) _ _ Ao0 x1_2.length x1_2 := (Kd.V_at (base := w.heap.size) HO_1.out).2.2; have hcut1 := cut_from (P := Try.prog) 27 5 .i64 Try.underlying27 hi1 1 hsz1 Ao0 x1_2.length co0 32 (by omega) q1; have hr1 := Kd.F_cut (m := (32 : Int).toNat) (c := co0) hC1 (by omega) hroom1; obtain ⟨A7, hA0⟩ : ∃ A1, A1 = (if co0 = (32 : Int).toNat then Ao0 else (Ao0 : Option Addr).map (·.add ((32 : Int).toNat * 1))) := ⟨_, rfl⟩; obtain ⟨c21, hc21⟩ : ∃ c1, c1 = co0 - (32 : Int).toNat := ⟨_, rfl⟩; have hy3 : y4.length = x1_2.length - (32 : Int).toNat := (by rw [Ny1.out, List.length_drop] <;> omega); rw [show (x1_2).drop (32 : Int).toNat = y4 from Ny1.out.symm] at hr1; replace hr1 : Kd.F (Kd.int .u8) _ _ A7 y4.length y4 := (by rw [hA0]; exact hr1); rw [← hy3, ← hA0, ← hc21] at hcut1; have HO2 := Aside0.mk (show Kd.V (Kd.int .u8) 5 _ w.heap.size _ (.slice A7 y4.length c21) y4 from Kd.V_mk (by rw [hy3, hc21]; exact Nat.sub_le_sub_right hroom1 _) hr1); have HC2 := Aside0.mk (show y4.length ≤ c21 from by rw [hy3, hc21]; exact Nat.sub_le_sub_right hroom1 _); clear hr1 hC1 hroom1 hi1 hsz1 hc21; have KY1 := Aside0.mk hy3; have KA0 := Aside0.mk hA0; clear hy3 hA0; replace q1 := eq_true q1))
      go_roundg k2
      case measure => have := HJ0.out; have := HK0.out; omega
      case rel => exact ⟨(y4), H', ⟨by have := HJ0.out; have := HK0.out; omega⟩, ⟨by (with_reducible repeat (first | apply Kd.V_alloc | apply Kd.V_drewN | apply Kd.V_drew)); exact HO2.out⟩, ⟨by (with_reducible repeat (first | apply Kd.V_alloc | apply Kd.V_drewN | apply Kd.V_drew)); exact HO_0.out⟩, ⟨by (with_reducible repeat (first | refine blk_drewN ?_ _ | refine blk_drew ?_ | refine blk_alloc ?_ _)); exact BK0.out⟩, ⟨Cz.bl (w := w)⟩⟩
def frame_end_may.f (a0_0 : Int) (a0_1 : Int) : Option (Bool) := (frame_within.f a0_0 1 65535).bind fun t172 => (if t172 = true then ((frame_within.f a0_1 0 4294967295).bind fun t173 => (some t173)) else (some false))
set_option maxHeartbeats 8000000 in
set_option maxRecDepth 100000 in
theorem frame_end_may.calls (a0_0 : Int) (a0_1 : Int) (r : Bool) (w : World) (h : frame_end_may.f a0_0 a0_1 = some r) :
  Calls Try.prog 114 #[.agg #[.int .i64 a0_0, .int .i64 a0_1]] w fun e w' => e = .returned (.bool r) ∧ Below w.heap.size w w' := by
 have hu0 := Try.underlying97
 have HB := Aside0.mk (Below.refl w.heap.size w)
 have H : ((frame_within.f a0_0 1 65535).bind fun t0 => (if t0 = true then ((frame_within.f a0_1 0 4294967295).bind fun t173 => (some t173)) else (some false))) = some r := h
 clear h
 replace H := Option.bind_eq_some_iff.mp H
 obtain ⟨t0, A0, H⟩ := H
 (try dsimp only at H)
 have A2 := Aside0.mk A0
 clear A0
 by_cases c3 : t0 = true
 focus
  subst c3
  rw [if_pos rfl] at H
  replace H := Option.bind_eq_some_iff.mp H
  obtain ⟨t173, A1, H⟩ := H
  (try dsimp only at H)
  have A4 := Aside0.mk A1
  clear A1
 rotate_left
 focus
  replace c3 := Bool.eq_false_iff.mpr c3
  subst c3
  rw [if_neg (show ¬ (false = true) by decide)] at H
 rotate_left
 all_goals
  obtain rfl := Option.some.inj H
  go_enter Try.func114, Try.ntmps114
 focus go_wp2_with (first | ((with_reducible refine gate_dst (N := 1) rfl ?_); refine Cz.bx (N := 1) #[.int .i64 a0_0, .int .i64 a0_1] 97 ?_; intro gb0 hg w5 hbox hb; have BK0 := Aside0.mk (hbox); have GW0 := Aside0.mk ((Cz.gs hg : w.heap.size ≤ gb0)); have GE0 := GW0; replace HB := Cz.bs (w := w) hb; clear hb hbox hg; obtain ⟨z0_0, z0_1, y0_0, y0_1⟩ := Cz.d2 BK0) | ((with_reducible refine gate_callee (f := 111) rfl ?_); refine Cz.gL (N := (some 5)) Try.func111 #[.int .i64 a0_0, .int .i64 1, .int .i64 65535] ?_; (with_reducible refine (frame_within.calls a0_0 1 65535 true _ A2.out).mono ?_); rintro e w' ⟨rfl, ⟨nd, rfl⟩⟩; refine ⟨_, rfl, ?_⟩) | (go_at_call 111; (with_reducible refine (frame_within.calls a0_1 0 4294967295 t173 _ A4.out).mono ?_); rintro e w' ⟨rfl, ⟨nd, rfl⟩⟩))
 rotate_left
 focus go_wp2_with (first | ((with_reducible refine gate_dst (N := 1) rfl ?_); refine Cz.bx (N := 1) #[.int .i64 a0_0, .int .i64 a0_1] 97 ?_; intro gb0 hg w7 hbox hb; have BK0 := Aside0.mk (hbox); have GW0 := Aside0.mk ((Cz.gs hg : w.heap.size ≤ gb0)); have GE0 := GW0; replace HB := Cz.bs (w := w) hb; clear hb hbox hg; obtain ⟨z0_0, z0_1, y0_0, y0_1⟩ := Cz.d2 BK0) | ((with_reducible refine gate_callee (f := 111) rfl ?_); refine Cz.gL (N := (some 5)) Try.func111 #[.int .i64 a0_0, .int .i64 1, .int .i64 65535] ?_; (with_reducible refine (frame_within.calls a0_0 1 65535 false _ A2.out).mono ?_); rintro e w' ⟨rfl, ⟨nd, rfl⟩⟩; refine ⟨_, rfl, ?_⟩))
 rotate_left
 all_goals
  go_ret
  exact ⟨Cz.er, Cz.bl (w := w)⟩
def frame_head_text.f (a0_0 : Int) (a0_1 : Int) (a0_2 : Int) : Option (List Int × Int) := (le_Pack.f (⟨#[98, 119, 119]⟩ : ByteArray) (([IntKind.u64.wrap (a0_0), IntKind.u64.wrap (a0_1), IntKind.u64.wrap (a0_2)] : List Int))).bind fun bt178 => (some (bt178.1, bt178.2))
set_option maxHeartbeats 8000000 in
set_option maxRecDepth 100000 in
theorem frame_head_text.calls (a0_0 : Int) (a0_1 : Int) (a0_2 : Int) (r1 : List Int) (r2 : Int) (w : World) (h : frame_head_text.f a0_0 a0_1 a0_2 = some (r1, r2)) :
  Calls Try.prog 110 #[.agg #[.int .i64 a0_0, .int .i64 a0_1, .int .i64 a0_2]] w fun e w' => ∃ v0_ : Value, e = .returned (.tuple #[v0_, .int .i64 r2]) ∧ Kd.R (Kd.int .u8) 5 w' w.heap.size (fun _ => True) v0_ r1 ∧ Below w.heap.size w w' := by
 have hu0 := Try.underlying93
 have HB := Aside0.mk (Below.refl w.heap.size w)
 have H : ((le_Pack.f (⟨#[98, 119, 119]⟩ : ByteArray) (([IntKind.u64.wrap (a0_0), IntKind.u64.wrap (a0_1), IntKind.u64.wrap (a0_2)] : List Int))).bind fun bt0 => (some (bt0.1, bt0.2))) = some (r1, r2) := h
 clear h
 obtain ⟨y0, hy0⟩ : ∃ y_ : List Int, y_ = (([IntKind.u64.wrap (a0_0), IntKind.u64.wrap (a0_1), IntKind.u64.wrap (a0_2)] : List Int)) := ⟨_, rfl⟩
 replace H : ((le_Pack.f (⟨#[98, 119, 119]⟩ : ByteArray) y0).bind fun bt0 => (some (bt0.1, bt0.2))) = some (r1, r2) := by first | (rw [hy0]; with_reducible exact H) | (have H0_ := (Option.bind_some _ _).symm.trans H; rw [hy0]; with_reducible exact H0_) | (have H0_ := (Option.bind_some _ _).symm.trans H; with_reducible exact H0_) | with_reducible exact H | (rw [hy0]; exact H) | exact H
 have Ny0 := Aside0.mk hy0
 clear hy0
 replace H := Option.bind_eq_some_iff.mp H
 obtain ⟨⟨t0, t1⟩, A0, H⟩ := H
 (try dsimp only at H)
 have A2 := Aside0.mk A0
 clear A0
 simp only [Option.some.injEq, Prod.mk.injEq] at H
 obtain ⟨rfl, rfl⟩ := H
 go_enter Try.func110, Try.ntmps110
 go_wp2_with (first | ((with_reducible refine gate_dst (N := 1) rfl ?_); refine Cz.bx (N := 1) #[.int .i64 a0_0, .int .i64 a0_1, .int .i64 a0_2] 93 ?_; intro gb0 hg w3 hbox hb; have BK0 := Aside0.mk (hbox); have GW0 := Aside0.mk ((Cz.gs hg : w.heap.size ≤ gb0)); have GE0 := GW0; replace HB := Cz.bs (w := w) hb; clear hb hbox hg; obtain ⟨z0_0, z0_1, z0_2, y1_0, y1_1, y1_2⟩ := Cz.d3 BK0) | ((with_reducible refine gate_dst (N := 13) rfl ?_); refine Kd.R_lit (Kd.int .u64) _ 68 ?hg (N := 13) ?hd (xs := ([IntKind.u64.wrap (a0_0), IntKind.u64.wrap (a0_1), IntKind.u64.wrap (a0_2)] : List Int)) (inner := [.int .u64 (IntKind.u64.wrap (a0_0)), .int .u64 (IntKind.u64.wrap (a0_1)), .int .u64 (IntKind.u64.wrap (a0_2))]) (ok := fun _ => True) (okp := fun _ => True) ?hr ?hp (fun _ hk => hk) trivial (Below.refl _ _) (Nat.le_refl _) (by simp) ?_; (case hd => rfl); (case hg => rfl); (case hr => first | (go_simp; done) | (go_simp; rfl)); (case hp => exact (Reps.one (show Kd.M (Kd.int .u64) _ _ _ (IntKind.u64.wrap (a0_0)) [.int .u64 (IntKind.u64.wrap (a0_0))] from rfl) (Reps.one (show Kd.M (Kd.int .u64) _ _ _ (IntKind.u64.wrap (a0_1)) [.int .u64 (IntKind.u64.wrap (a0_1))] from rfl) (Reps.one (show Kd.M (Kd.int .u64) _ _ _ (IntKind.u64.wrap (a0_2)) [.int .u64 (IntKind.u64.wrap (a0_2))] from rfl) (Reps.none _ _))))); intro v1 w5 ho1 hb hg_ hnew_; clear hg_ hnew_; (first | rw [← Ny0.out] at ho1 | (simp only [Int.reduceToNat] at ho1; rw [← Ny0.out] at ho1)); have HO0 := Aside0.mk (Kd.R_lower ho1 (below_size (Cz.bl (w := w)))); replace BK0 := Cz.bk BK0 hb; replace HB := Cz.bs (w := w) hb; clear hb ho1; obtain ⟨Ao0, co0, eo0⟩ := Kd.R_slice HO0.out; subst eo0) | ((with_reducible refine gate_callee (f := 39) rfl ?_); refine Cz.gL (N := (some 14)) Try.func39 #[.string (⟨#[98, 119, 119]⟩ : ByteArray), .slice Ao0 y0.length co0] ?_; (with_reducible refine (le_Pack.calls (⟨#[98, 119, 119]⟩ : ByteArray) _ _ y0 t0 t1 _ ?side0 ?side1 A2.out).mono ?_); (case side0 => repeat (first | exact (Kd.R_reads' HO0.out).2.2 | (with_reducible refine Kd.C_alloc ?_ _) | (with_reducible refine Kd.C_drewN ?_ _) | (with_reducible refine Kd.C_drew ?_))); (case side1 => exact (Kd.R_reads' HO0.out).2.1); rintro e w8 ⟨v2, rfl, ho0, hb⟩; refine ⟨_, rfl, ?_⟩; have HO1 := Aside0.mk (Kd.R_lower ho0 (below_size (Cz.bl (w := w)))); replace HO0 := Cz.rb HO0 hb; replace BK0 := Cz.bk BK0 hb; replace HB := Cz.bs (w := w) hb; (try clear hb); (try clear ho0)))
 go_ret2
 exact ⟨_, Cz.er, Cz.rh, Cz.bl (w := w)⟩
def frame_blocks_text.f (a0_0 : Int) (a0_1 : Int) (a0_2 : Int) (l0_3 : List Int) : Option (List Int × Int) := (le_Pack.f (⟨#[98, 98]⟩ : ByteArray) (([IntKind.u64.wrap (a0_1), IntKind.u64.wrap (a0_2)] : List Int))).bind fun bt186 => (if bt186.1.length + l0_3.length < 140737488355328 then (some ((bt186.1 ++ l0_3), bt186.2)) else (none))
set_option maxHeartbeats 8000000 in
set_option maxRecDepth 100000 in
theorem frame_blocks_text.calls (a0_0 : Int) (a0_1 : Int) (a0_2 : Int) (A0_3 : Option Addr) (c0_3 : Nat) (l0_3 : List Int) (r1 : List Int) (r2 : Int) (w : World) (hr0_3 : Kd.C (Kd.int .u8) w A0_3 l0_3.length l0_3) (hc0_3 : l0_3.length ≤ c0_3) (h : frame_blocks_text.f a0_0 a0_1 a0_2 l0_3 = some (r1, r2)) :
  Calls Try.prog 113 #[.agg #[.int .i64 a0_0, .int .i64 a0_1, .int .i64 a0_2, .slice A0_3 l0_3.length c0_3]] w fun e w' => ∃ v0_ : Value, e = .returned (.tuple #[v0_, .int .i64 r2]) ∧ Kd.R (Kd.int .u8) 5 w' w.heap.size (fun _ => True) v0_ r1 ∧ Below w.heap.size w w' := by
 have hu0 := Try.underlying95
 have HR0_3 := Aside0.mk hr0_3
 have HC0_3 := Aside0.mk hc0_3
 clear hr0_3 hc0_3
 have HB := Aside0.mk (Below.refl w.heap.size w)
 have H : ((le_Pack.f (⟨#[98, 98]⟩ : ByteArray) (([IntKind.u64.wrap (a0_1), IntKind.u64.wrap (a0_2)] : List Int))).bind fun bt0 => (if bt0.1.length + l0_3.length < 140737488355328 then (some ((bt0.1 ++ l0_3), bt0.2)) else (none))) = some (r1, r2) := h
 clear h
 obtain ⟨y0, hy0⟩ : ∃ y_ : List Int, y_ = (([IntKind.u64.wrap (a0_1), IntKind.u64.wrap (a0_2)] : List Int)) := ⟨_, rfl⟩
 replace H : ((le_Pack.f (⟨#[98, 98]⟩ : ByteArray) y0).bind fun bt0 => (if bt0.1.length + l0_3.length < 140737488355328 then (some ((bt0.1 ++ l0_3), bt0.2)) else (none))) = some (r1, r2) := by first | (rw [hy0]; with_reducible exact H) | (have H0_ := (Option.bind_some _ _).symm.trans H; rw [hy0]; with_reducible exact H0_) | (have H0_ := (Option.bind_some _ _).symm.trans H; with_reducible exact H0_) | with_reducible exact H | (rw [hy0]; exact H) | exact H
 have Ny0 := Aside0.mk hy0
 clear hy0
 replace H := Option.bind_eq_some_iff.mp H
 obtain ⟨⟨t0, t1⟩, A1, H⟩ := H
 (try dsimp only at H)
 have A2 := Aside0.mk A1
 clear A1
 by_cases c3 : t0.length + l0_3.length < 140737488355328
 ·rw [if_pos c3] at H
  have LMc0 := Aside0.mk c3
  clear c3
  obtain ⟨y1, hy1⟩ : ∃ y_ : List Int, y_ = (t0 ++ l0_3) := ⟨_, rfl⟩
  replace H : (some (y1, t1)) = some (r1, r2) := by first | (rw [hy1]; with_reducible exact H) | (have H0_ := (Option.bind_some _ _).symm.trans H; rw [hy1]; with_reducible exact H0_) | (have H0_ := (Option.bind_some _ _).symm.trans H; with_reducible exact H0_) | with_reducible exact H | (rw [hy1]; exact H) | exact H
  have Ny1 := Aside0.mk hy1
  clear hy1
  simp only [Option.some.injEq, Prod.mk.injEq] at H
  obtain ⟨rfl, rfl⟩ := H
  go_enter Try.func113, Try.ntmps113
  go_wp2_with (first | ((with_reducible refine gate_dst (N := 1) rfl ?_); refine Cz.bx (N := 1) #[.int .i64 a0_0, .int .i64 a0_1, .int .i64 a0_2, .slice A0_3 l0_3.length c0_3] 95 ?_; intro gb0 hg w4 hbox hb; have BK0 := Aside0.mk (hbox); have GW0 := Aside0.mk ((Cz.gs hg : w.heap.size ≤ gb0)); have GE0 := GW0; replace HB := Cz.bs (w := w) hb; clear hb hbox hg; obtain ⟨z0_0, z0_1, z0_2, z0_3, y2_0, y2_1, y2_2, y2_3⟩ := Cz.d4 BK0) | ((with_reducible refine gate_dst (N := 13) rfl ?_); refine Kd.R_lit (Kd.int .u64) _ 68 ?hg (N := 13) ?hd (xs := ([IntKind.u64.wrap (a0_1), IntKind.u64.wrap (a0_2)] : List Int)) (inner := [.int .u64 (IntKind.u64.wrap (a0_1)), .int .u64 (IntKind.u64.wrap (a0_2))]) (ok := fun _ => True) (okp := fun _ => True) ?hr ?hp (fun _ hk => hk) trivial (Below.refl _ _) (Nat.le_refl _) (by simp) ?_; (case hd => rfl); (case hg => rfl); (case hr => first | (go_simp; done) | (go_simp; rfl)); (case hp => exact (Reps.one (show Kd.M (Kd.int .u64) _ _ _ (IntKind.u64.wrap (a0_1)) [.int .u64 (IntKind.u64.wrap (a0_1))] from rfl) (Reps.one (show Kd.M (Kd.int .u64) _ _ _ (IntKind.u64.wrap (a0_2)) [.int .u64 (IntKind.u64.wrap (a0_2))] from rfl) (Reps.none _ _)))); intro v1 w1 ho1 hb hg_ hnew_; clear hg_ hnew_; (first | rw [← Ny0.out] at ho1 | (simp only [Int.reduceToNat] at ho1; rw [← Ny0.out] at ho1)); have HO0 := Aside0.mk (Kd.R_lower ho1 (below_size (Cz.bl (w := w)))); replace BK0 := Cz.bk BK0 hb; replace HB := Cz.bs (w := w) hb; clear hb ho1; obtain ⟨Ao0, co0, eo0⟩ := Kd.R_slice HO0.out; subst eo0) | ((with_reducible refine gate_callee (f := 39) rfl ?_); refine Cz.gL (N := (some 14)) Try.func39 #[.string (⟨#[98, 98]⟩ : ByteArray), .slice Ao0 y0.length co0] ?_; (with_reducible refine (le_Pack.calls (⟨#[98, 98]⟩ : ByteArray) _ _ y0 t0 t1 _ ?side0 ?side1 A2.out).mono ?_); (case side0 => repeat (first | exact (Kd.R_reads' HO0.out).2.2 | (with_reducible refine Kd.C_alloc ?_ _) | (with_reducible refine Kd.C_drewN ?_ _) | (with_reducible refine Kd.C_drew ?_))); (case side1 => exact (Kd.R_reads' HO0.out).2.1); rintro e w2 ⟨v2, rfl, ho0, hb⟩; refine ⟨_, rfl, ?_⟩; have HO1 := Aside0.mk (Kd.R_lower ho0 (below_size (Cz.bl (w := w)))); replace HO0 := Cz.rb HO0 hb; replace BK0 := Cz.bk BK0 hb; replace HB := Cz.bs (w := w) hb; (try clear hb); (try clear ho0); obtain ⟨z1_0, z1_1, z1_2, z1_3, y3_0, y3_1, y3_2, y3_3⟩ := Cz.d4 BK0) | ((with_reducible refine gate_builtin (b := .append) (xs := #[.tmp 17, .tmp 19]) rfl ?_); at_builtin; refine Kd.R_append_rows (Kd.int .u8) (w0 := w) w.heap.size rfl (.tmp 17) (.tmp 19) 27 5 (.int .u8 0) 1 rfl Try.underlying27 info5 rfl (by decide) (by omega) v2 t0 l0_3 _ _ _ (fun _ => True) (fun _ => False) rfl rfl ?aO ?aR (fun _ _ h => h) (fun _ h => h.elim) ?aF ?aB ?aS ?aL ?_; (case aR => exact Cz.cb HR0_3); (case aB => exact (Cz.bl (w := w))); (case aF => exact (fun _ _ => trivial)); (case aO => exact (by (with_reducible repeat (first | apply Kd.R_alloc | apply Kd.R_drewN | apply Kd.R_drew)); exact HO1.out)); (case aS => exact (below_size (Cz.bl (w := w)))); (case aL => have := LMc0.out; omega); intro v3 w3 ho hb hg hat; rw [← Ny1.out] at ho; have HO2 := Aside0.mk (ho); replace BK0 := Cz.bw BK0 hg (Kd.R_ne HO1.out BK0.out (by decide)); replace HO0 := Aside0.mk (Kd.R_over' (by (with_reducible repeat (first | apply Kd.R_alloc | apply Kd.R_drewN | apply Kd.R_drew)); exact HO0.out) (Kd.R_typed (by (with_reducible repeat (first | apply Kd.R_alloc | apply Kd.R_drewN | apply Kd.R_drew)); exact HO1.out)) (by decide) hg); replace HB := Aside0.mk (hb); clear HO1; clear ho hb hg hat))
  go_ret2
  exact ⟨_, Cz.er, Cz.rh, Cz.bl (w := w)⟩
 rw [if_neg c3] at H
 exact absurd H (by simp)
def frame_end_text.f (a0_0 : Int) (a0_1 : Int) : Option (List Int × Int) := (le_Pack.f (⟨#[104, 119]⟩ : ByteArray) (([IntKind.u64.wrap (a0_0), IntKind.u64.wrap (a0_1)] : List Int))).bind fun bt197 => (some (bt197.1, bt197.2))
set_option maxHeartbeats 8000000 in
set_option maxRecDepth 100000 in
theorem frame_end_text.calls (a0_0 : Int) (a0_1 : Int) (r1 : List Int) (r2 : Int) (w : World) (h : frame_end_text.f a0_0 a0_1 = some (r1, r2)) :
  Calls Try.prog 115 #[.agg #[.int .i64 a0_0, .int .i64 a0_1]] w fun e w' => ∃ v0_ : Value, e = .returned (.tuple #[v0_, .int .i64 r2]) ∧ Kd.R (Kd.int .u8) 5 w' w.heap.size (fun _ => True) v0_ r1 ∧ Below w.heap.size w w' := by
 have hu0 := Try.underlying97
 have HB := Aside0.mk (Below.refl w.heap.size w)
 have H : ((le_Pack.f (⟨#[104, 119]⟩ : ByteArray) (([IntKind.u64.wrap (a0_0), IntKind.u64.wrap (a0_1)] : List Int))).bind fun bt0 => (some (bt0.1, bt0.2))) = some (r1, r2) := h
 clear h
 obtain ⟨y0, hy0⟩ : ∃ y_ : List Int, y_ = (([IntKind.u64.wrap (a0_0), IntKind.u64.wrap (a0_1)] : List Int)) := ⟨_, rfl⟩
 replace H : ((le_Pack.f (⟨#[104, 119]⟩ : ByteArray) y0).bind fun bt0 => (some (bt0.1, bt0.2))) = some (r1, r2) := by first | (rw [hy0]; with_reducible exact H) | (have H0_ := (Option.bind_some _ _).symm.trans H; rw [hy0]; with_reducible exact H0_) | (have H0_ := (Option.bind_some _ _).symm.trans H; with_reducible exact H0_) | with_reducible exact H | (rw [hy0]; exact H) | exact H
 have Ny0 := Aside0.mk hy0
 clear hy0
 replace H := Option.bind_eq_some_iff.mp H
 obtain ⟨⟨t0, t198⟩, A0, H⟩ := H
 (try dsimp only at H)
 have A2 := Aside0.mk A0
 clear A0
 simp only [Option.some.injEq, Prod.mk.injEq] at H
 obtain ⟨rfl, rfl⟩ := H
 go_enter Try.func115, Try.ntmps115
 go_wp2_with (first | ((with_reducible refine gate_dst (N := 1) rfl ?_); refine Cz.bx (N := 1) #[.int .i64 a0_0, .int .i64 a0_1] 97 ?_; intro gb0 hg w3 hbox hb; have BK0 := Aside0.mk (hbox); have GW0 := Aside0.mk ((Cz.gs hg : w.heap.size ≤ gb0)); have GE0 := GW0; replace HB := Cz.bs (w := w) hb; clear hb hbox hg; obtain ⟨z0_0, z0_1, y1_0, y1_1⟩ := Cz.d2 BK0) | ((with_reducible refine gate_dst (N := 10) rfl ?_); refine Kd.R_lit (Kd.int .u64) _ 68 ?hg (N := 10) ?hd (xs := ([IntKind.u64.wrap (a0_0), IntKind.u64.wrap (a0_1)] : List Int)) (inner := [.int .u64 (IntKind.u64.wrap (a0_0)), .int .u64 (IntKind.u64.wrap (a0_1))]) (ok := fun _ => True) (okp := fun _ => True) ?hr ?hp (fun _ hk => hk) trivial (Below.refl _ _) (Nat.le_refl _) (by simp) ?_; (case hd => rfl); (case hg => rfl); (case hr => first | (go_simp; done) | (go_simp; rfl)); (case hp => exact (Reps.one (show Kd.M (Kd.int .u64) _ _ _ (IntKind.u64.wrap (a0_0)) [.int .u64 (IntKind.u64.wrap (a0_0))] from rfl) (Reps.one (show Kd.M (Kd.int .u64) _ _ _ (IntKind.u64.wrap (a0_1)) [.int .u64 (IntKind.u64.wrap (a0_1))] from rfl) (Reps.none _ _)))); intro v1 w5 ho1 hb hg_ hnew_; clear hg_ hnew_; (first | rw [← Ny0.out] at ho1 | (simp only [Int.reduceToNat] at ho1; rw [← Ny0.out] at ho1)); have HO0 := Aside0.mk (Kd.R_lower ho1 (below_size (Cz.bl (w := w)))); replace BK0 := Cz.bk BK0 hb; replace HB := Cz.bs (w := w) hb; clear hb ho1; obtain ⟨Ao0, co0, eo0⟩ := Kd.R_slice HO0.out; subst eo0) | ((with_reducible refine gate_callee (f := 39) rfl ?_); refine Cz.gL (N := (some 11)) Try.func39 #[.string (⟨#[104, 119]⟩ : ByteArray), .slice Ao0 y0.length co0] ?_; (with_reducible refine (le_Pack.calls (⟨#[104, 119]⟩ : ByteArray) _ _ y0 t0 t198 _ ?side0 ?side1 A2.out).mono ?_); (case side0 => repeat (first | exact (Kd.R_reads' HO0.out).2.2 | (with_reducible refine Kd.C_alloc ?_ _) | (with_reducible refine Kd.C_drewN ?_ _) | (with_reducible refine Kd.C_drew ?_))); (case side1 => exact (Kd.R_reads' HO0.out).2.1); rintro e w8 ⟨v2, rfl, ho0, hb⟩; refine ⟨_, rfl, ?_⟩; have HO1 := Aside0.mk (Kd.R_lower ho0 (below_size (Cz.bl (w := w)))); replace HO0 := Cz.rb HO0 hb; replace BK0 := Cz.bk BK0 hb; replace HB := Cz.bs (w := w) hb; (try clear hb); (try clear ho0)))
 go_ret2
 exact ⟨_, Cz.er, Cz.rh, Cz.bl (w := w)⟩
end Go.Proofs.Ytohkmmbmfhficaa.PT
