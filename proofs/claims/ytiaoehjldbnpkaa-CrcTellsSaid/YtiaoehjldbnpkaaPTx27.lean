/- Functions of the program as Lean functions, and that the Go code comes to just their answers: no condition but that the function says so. (Written by a program of this workplace over the kit's print, with contracts by hand.) -/
import Derived.Test.YtiaoehjldbnpkaaPTx17
namespace Go.Proofs.Ytiaoehjldbnpkaa.PT
open Go.RowKit Go.Proofs.YtiaoehjldbnpkaaW.PrintWords Go.Proofs.YtiaoehjldbnpkaaW.PrintLast Go.Proofs.YtiaoehjldbnpkaaW.PrintMore
attribute [local go_sem] max2_int min2_int max_two min_two max_three min_three max_four min_four   -- for this text's walks alone
set_option linter.unusedVariables false
set_option linter.unusedSimpArgs false

/-! ### waggonerref02_More_p: function 20 -/
mutual
def waggonerref02_More_p.l0 : Nat → List Int → Int → Int → Option (Int)
  | 0, _, _, _ => none
  | k + 1, x1, x5, x6 => if x6 < (x1.length : Int) then (if 0 ≤ x6 then (waggonerref02_More_p.l1 k x1 (Go.bits .xor .u32 x5 ((rd x1 x6) % 4294967296)) x6 0) else (none)) else (some (Go.bits .xor .u32 x5 4294967295))
def waggonerref02_More_p.l1 : Nat → List Int → Int → Int → Int → Option (Int)
  | 0, _, _, _, _ => none
  | k + 1, x1, x5, x6, x7 => if x7 < 8 then ((waggonerref02_step.f x5).bind fun t115 => (waggonerref02_More_p.l1 k x1 t115 x6 (wrap64 (x7 + 1)))) else (waggonerref02_More_p.l0 k x1 x5 (wrap64 (x6 + 1)))
end
def waggonerref02_More_p.f (k : Nat) (a0 : Int) (l1 : List Int) : Option (Int) := waggonerref02_More_p.l0 k l1 (Go.bits .xor .u32 a0 4294967295) 0
theorem waggonerref02_More_p.mono_l : ∀ k, (∀ y0 y1 y2, LeO (waggonerref02_More_p.l0 k y0 y1 y2) (waggonerref02_More_p.l0 (k + 1) y0 y1 y2)) ∧ (∀ y0 y1 y2 y3, LeO (waggonerref02_More_p.l1 k y0 y1 y2 y3) (waggonerref02_More_p.l1 (k + 1) y0 y1 y2 y3))
  | 0 => ⟨fun _ _ _ r h => by simp [waggonerref02_More_p.l0] at h, fun _ _ _ _ r h => by simp [waggonerref02_More_p.l1] at h⟩
  | k + 1 => by
    obtain ⟨ih0, ih1⟩ := waggonerref02_More_p.mono_l k
    refine ⟨?_, ?_⟩
    · intro y0 y1 y2
      unfold waggonerref02_More_p.l0
      repeat' first
      | (with_reducible exact ih0 _ _ _)
      | (with_reducible exact ih1 _ _ _ _)
      | (with_reducible exact LeO.refl _)
      | (with_reducible exact LeO.none _)
      | (with_reducible refine LeO.ite ?_ ?_)
      | (with_reducible refine LeO.bind ?_ (fun _ => ?_))
      | exact ih0 _ _ _
      | exact ih1 _ _ _ _
      | exact LeO.none _
      | refine LeO.ite ?_ ?_
      | refine LeO.bind ?_ (fun _ => ?_)
    · intro y0 y1 y2 y3
      unfold waggonerref02_More_p.l1
      repeat' first
      | (with_reducible exact ih0 _ _ _)
      | (with_reducible exact ih1 _ _ _ _)
      | (with_reducible exact LeO.refl _)
      | (with_reducible exact LeO.none _)
      | (with_reducible refine LeO.ite ?_ ?_)
      | (with_reducible refine LeO.bind ?_ (fun _ => ?_))
      | exact ih0 _ _ _
      | exact ih1 _ _ _ _
      | exact LeO.none _
      | refine LeO.ite ?_ ?_
      | refine LeO.bind ?_ (fun _ => ?_)
theorem waggonerref02_More_p.mono : ∀ a0 a1 k, LeO (waggonerref02_More_p.f k a0 a1) (waggonerref02_More_p.f (k + 1) a0 a1) := by
  intro a0 a1 k
  obtain ⟨ih0, ih1⟩ := waggonerref02_More_p.mono_l k
  unfold waggonerref02_More_p.f
  repeat' first
      | (with_reducible exact ih0 _ _ _)
      | (with_reducible exact ih1 _ _ _ _)
      | (with_reducible exact LeO.refl _)
      | (with_reducible exact LeO.none _)
      | (with_reducible refine LeO.ite ?_ ?_)
      | (with_reducible refine LeO.bind ?_ (fun _ => ?_))
      | exact ih0 _ _ _
      | exact ih1 _ _ _ _
      | exact LeO.none _
      | refine LeO.ite ?_ ?_
      | refine LeO.bind ?_ (fun _ => ?_)
set_option maxHeartbeats 8000000 in
set_option maxRecDepth 100000 in
theorem waggonerref02_More_p.calls (k : Nat) (a0 : Int) (A1 : Option Addr) (c1 : Nat) (l1 : List Int) (r : Int) (w : World) (hr1 : Kd.C (Kd.int .u8) w A1 l1.length l1) (hc1 : l1.length ≤ c1) (h : waggonerref02_More_p.f k a0 l1 = some r) :
    Calls Try.prog 20 #[.int .u32 a0, .slice A1 l1.length c1] w fun e w' => e = .returned (.int .u32 r) ∧ Drawn0 w w' := by
  have HR1 := Aside0.mk hr1
  have HC1 := Aside0.mk hc1
  clear hr1 hc1
  have H : (waggonerref02_More_p.l0 k l1 (Go.bits .xor .u32 a0 4294967295) 0) = some r := h
  clear h
  have H' := Aside0.mk H
  clear H
  go_enter Try.func20, Try.ntmps20
  go_wp2
  go_loopg [5, 6] k (fun kq v5 v6 w' => ∃ (x5_1 : Int) (x6_1 : Int), v5 = .int .u32 x5_1 ∧ v6 = .int .i64 x6_1 ∧ Aside0 (waggonerref02_More_p.l0 kq l1 x5_1 x6_1 = some r) ∧ Aside0 (kq ≤ k) ∧ Drawn0 w w')
  case atStart => exact ⟨(Go.bits .xor .u32 a0 4294967295), (0), (by first | rfl | (simp; done) | (simp [*]; done)), (by first | rfl | (simp; done) | (simp [*]; done)), H', ⟨Nat.le_refl _⟩, by repeat (first | exact Drawn0.refl _ | apply Drawn0.step)⟩
  case round =>
    clear H'
    try clear c1
    try clear c2
    try clear p2
    obtain ⟨x5_1, x6_1, rfl, rfl, HA, HK1, ⟨m1, rfl⟩⟩ := hrel
    cases gk with
    | zero => exact absurd HA.out (by simp [waggonerref02_More_p.l0])
    | succ k1 =>
      have H := HA.out
      clear HA
      simp only [waggonerref02_More_p.l0] at H
      by_cases c3 : x6_1 < (l1.length : Int)
      · rw [if_pos c3] at H
        have c3b0 : decide (x6_1 < (l1.length : Int)) = true := decide_eq_true c3
        clear c3
        by_cases c4 : 0 ≤ x6_1
        · rw [if_pos c4] at H
          have c4b0 : decide (0 ≤ x6_1) = true := decide_eq_true c4
          clear c4
          have H' := Aside0.mk H
          clear H
          have p114 : 0 ≤ (x6_1 : Int) := of_decide_eq_true (by first | (with_reducible assumption) | assumption)
          have q114 : x6_1 < (l1.length : Int) := of_decide_eq_true (by first | (with_reducible assumption) | assumption)
          obtain ⟨ad114, e114, hx114_0⟩ := Kd.at_int HR1.out x6_1 p114 q114
          cases e114
          replace p114 := eq_true p114
          replace q114 := eq_true q114
          go_wp2
          go_loopg [5, 7] k1 (fun kq v5 v7 w' => ∃ (x5_2 : Int) (x7_2 : Int), v5 = .int .u32 x5_2 ∧ v7 = .int .i64 x7_2 ∧ Aside0 (waggonerref02_More_p.l1 kq l1 x5_2 x6_1 x7_2 = some r) ∧ Aside0 (kq ≤ k1) ∧ Drawn0 w w')
          case atStart => exact ⟨(Go.bits .xor .u32 x5_1 ((rd l1 x6_1) % 4294967296)), (0), (by first | rfl | (simp; done) | (simp [*]; done)), (by first | rfl | (simp; done) | (simp [*]; done)), H', ⟨Nat.le_refl _⟩, by repeat (first | exact Drawn0.refl _ | apply Drawn0.step)⟩
          case round =>
            clear H'
            try clear c1
            try clear p1
            try clear q1
            try clear hx1
            try clear c2
            try clear p2
            try clear c3
            try clear c3b0
            try clear c4
            try clear c4b0
            try clear hx114_0
            try clear p114
            try clear p2
            try clear q114
            obtain ⟨x5_2, x7_2, rfl, rfl, HA, HK2, ⟨m2, rfl⟩⟩ := hrel
            cases gk with
            | zero => exact absurd HA.out (by simp [waggonerref02_More_p.l1])
            | succ k2 =>
              have H := HA.out
              clear HA
              simp only [waggonerref02_More_p.l1] at H
              by_cases c5 : x7_2 < 8
              · rw [if_pos c5] at H
                have c5b0 : decide (x7_2 < 8) = true := decide_eq_true c5
                clear c5
                replace H := Option.bind_eq_some_iff.mp H
                obtain ⟨t115, A60, H⟩ := H
                replace H : (waggonerref02_More_p.l1 k2 l1 t115 x6_1 (wrap64 (x7_2 + 1))) = some r := H
                have A6 := Aside0.mk A60
                clear A60
                have H' := Aside0.mk H
                clear H
                go_wp2_with (first | ((with_reducible refine gate_callee (f := 38) rfl ?_); refine goesL_ (some 28) rfl rfl Try.func38 (by kernel_rfl) rfl #[.int .u32 x5_2] rfl (by (try simp only [List.map_toArray, List.map_cons, List.map_nil]); first | done | rfl | (simp only [List.length_drop, List.length_take]; rfl)) ?_; (with_reducible refine (waggonerref02_step.calls x5_2 t115 _ A6.out).mono ?_); rintro e w' ⟨rfl, ⟨nd, rfl⟩⟩; refine ⟨_, rfl, ?_⟩))
                go_roundg k2
                case measure => have := HK1.out; have := HK2.out; omega
                case rel => exact ⟨(t115), (wrap64 (x7_2 + 1)), (by first | rfl | (simp; done) | (simp [*]; done)), (by first | rfl | (simp; done) | (simp [*]; done)), H', ⟨by have := HK1.out; have := HK2.out; omega⟩, by repeat (first | exact Drawn0.refl _ | apply Drawn0.step)⟩
              · rw [if_neg c5] at H
                have c5b0 : decide (x7_2 < 8) = false := decide_eq_false c5
                clear c5
                have H' := Aside0.mk H
                clear H
                go_wp2
                go_roundg k2
                case measure => have := HK1.out; have := HK2.out; omega
                case rel => exact ⟨(x5_2), (wrap64 (x6_1 + 1)), (by first | rfl | (simp; done) | (simp [*]; done)), (by first | rfl | (simp; done) | (simp [*]; done)), H', ⟨by have := HK1.out; have := HK2.out; omega⟩, by repeat (first | exact Drawn0.refl _ | apply Drawn0.step)⟩
        · rw [if_neg c4] at H
          exact absurd H (by simp)
      · rw [if_neg c3] at H
        have c3b0 : decide (x6_1 < (l1.length : Int)) = false := decide_eq_false c3
        clear c3
        obtain rfl := Option.some.inj H
        go_wp2
        go_ret
        exact ⟨by first | rfl | (simp; done) | (simp [*]; done), by repeat (first | exact Drawn0.refl _ | apply Drawn0.step)⟩

end Go.Proofs.Ytiaoehjldbnpkaa.PT

namespace Go.Proofs.Ytiaoehjldbnpkaa.PT
open Go.RowKit Go.Proofs.YtiaoehjldbnpkaaW.PrintWords Go.Proofs.YtiaoehjldbnpkaaW.PrintLast Go.Proofs.YtiaoehjldbnpkaaW.PrintMore
attribute [local go_sem] max2_int min2_int max_two min_two max_three min_three max_four min_four   -- for this text's walks alone
set_option linter.unusedVariables false
set_option linter.unusedSimpArgs false

/-! ### waggonerref02_More: function 20 -/
def waggonerref02_More.f (a0 : Int) (l1 : List Int) : Option Int := if 0 ≤ a0 ∧ a0 < 4294967296 ∧ Pl.byteB l1 = true ∧ l1.length < 140737488355328 then some ((Pl.more a0.toNat (Pl.nats l1) : Nat) : Int) else none
theorem waggonerref02_step.tells (n : Nat) (h : n < 4294967296) : waggonerref02_step.f (n : Int) = some ((Pl.stp n : Nat) : Int) := by
  unfold waggonerref02_step.f Pl.stp
  have e1 : Int.tmod (n : Int) 2 = ((n % 2 : Nat) : Int) := by rw [Int.tmod_eq_emod_of_nonneg (by omega)]; omega
  have e2 : Int.tdiv (n : Int) 2 = ((n / 2 : Nat) : Int) := by rw [Int.tdiv_eq_ediv_of_nonneg (by omega)]; omega
  rw [e1, e2, show ((n / 2 : Nat) : Int) % 4294967296 = ((n / 2 : Nat) : Int) from by omega]
  by_cases hn : n % 2 = 1
  · rw [if_pos (by omega), if_pos hn, show (2197175160 : Int) = ((2197175160 : Nat) : Int) from rfl, Arr.x32 (by omega) (by decide)]
  · rw [if_neg (by omega), if_neg hn]
theorem waggonerref02_More.inner (l : List Int) (i : Int) : ∀ (d k : Nat) (n : Nat) (j : Int), n < 4294967296 → 0 ≤ j → j + d = 8 → waggonerref02_More_p.l1 (k + 1 + d) l (n : Int) i j = waggonerref02_More_p.l0 k l ((Pl.stpN d n : Nat) : Int) (wrap64 (i + 1))
  | 0, k, n, j, hn, h0, hd => by
    simp only [Nat.add_zero, waggonerref02_More_p.l1]
    rw [if_neg (by omega), Pl.stpN]
  | d + 1, k, n, j, hn, h0, hd => by
    rw [show k + 1 + (d + 1) = (k + 1 + d) + 1 from by omega]
    simp only [waggonerref02_More_p.l1]
    rw [if_pos (by omega), waggonerref02_step.tells n hn, Option.bind_some, show wrap64 (j + 1) = j + 1 from by unfold wrap64; omega, waggonerref02_More.inner l i d k _ (j + 1) (Pl.stp_lt hn) (by omega) (by omega), Pl.stpN]
theorem waggonerref02_More.outer (l : List Int) (hb : Pl.byteB l = true) (hl : l.length < 140737488355328) (s : Nat) (hs : s < 4294967296) : ∀ (d i : Nat), i + d = l.length → waggonerref02_More_p.l0 (1 + 10 * d) l ((Pl.raw s ((Pl.nats l).take i) : Nat) : Int) (i : Int) = some ((Pl.inv (Pl.raw s (Pl.nats l)) : Nat) : Int)
  | 0, i, hd => by
    simp only [Nat.mul_zero, Nat.add_zero, waggonerref02_More_p.l0]
    rw [if_neg (by omega), List.take_of_length_le (by rw [Pl.nats_length]; omega), show (4294967295 : Int) = ((4294967295 : Nat) : Int) from rfl, Arr.x32 (Pl.raw_lt _ (Pl.byteB_bytes hb) hs) (by decide)]
    rfl
  | d + 1, i, hd => by
    obtain ⟨x, hx, hxr, htk⟩ := Pl.byteB_at hb i (by omega)
    have hlt : Pl.raw s ((Pl.nats l).take i) < 4294967296 := Pl.raw_lt _ (Pl.bytes_take (Pl.byteB_bytes hb) i) hs
    rw [show 1 + 10 * (d + 1) = ((1 + 10 * d) + 1 + 8) + 1 from by omega]
    simp only [waggonerref02_More_p.l0]
    have e1 : rd l (i : Int) = (x : Int) := by unfold rd; rw [Int.toNat_natCast]; exact hxr
    rw [if_pos (by omega), if_pos (by omega), e1, show (x : Int) % 4294967296 = (x : Int) from by omega, Arr.x32 hlt (by omega)]
    rw [waggonerref02_More.inner l i 8 (1 + 10 * d) _ 0 (Pl.xor_lt hlt (by omega)) (by decide) (by decide), show wrap64 ((i : Int) + 1) = ((i + 1 : Nat) : Int) from by unfold wrap64; omega]
    rw [← waggonerref02_More.outer l hb hl s hs d (i + 1) (by omega), htk, Pl.raw_snoc]
theorem waggonerref02_More.tells {a0 : Int} {l1 : List Int} {r : Int} (h : waggonerref02_More.f a0 l1 = some r) : waggonerref02_More_p.f (1 + 10 * l1.length) a0 l1 = some r := by
  unfold waggonerref02_More.f at h
  split at h
  case isFalse => cases h
  rename_i hh
  obtain ⟨h0, h1, h2, h3⟩ := hh
  obtain rfl := Option.some.inj h
  obtain ⟨n, rfl⟩ := Int.eq_ofNat_of_zero_le h0
  unfold waggonerref02_More_p.f
  rw [show (4294967295 : Int) = ((4294967295 : Nat) : Int) from rfl, Arr.x32 (by omega) (by decide), Int.toNat_natCast]
  have := waggonerref02_More.outer l1 h2 h3 (Pl.inv n) (Pl.inv_lt (by omega)) l1.length 0 (by omega)
  rw [List.take_zero, Pl.raw_nil] at this
  exact this
theorem waggonerref02_More.calls (a0 : Int) (A1 : Option Addr) (c1 : Nat) (l1 : List Int) (r : Int) (w : World) (hr1 : Kd.C (Kd.int .u8) w A1 l1.length l1) (hc1 : l1.length ≤ c1) (h : waggonerref02_More.f a0 l1 = some r) :
    Calls Try.prog 20 #[.int .u32 a0, .slice A1 l1.length c1] w fun e w' => e = .returned (.int .u32 r) ∧ Drawn0 w w' :=
  waggonerref02_More_p.calls _ a0 A1 c1 l1 r w hr1 hc1 (waggonerref02_More.tells h)

end Go.Proofs.Ytiaoehjldbnpkaa.PT

namespace Go.Proofs.Ytiaoehjldbnpkaa.PT
open Go.RowKit Go.Proofs.YtiaoehjldbnpkaaW.PrintWords Go.Proofs.YtiaoehjldbnpkaaW.PrintLast Go.Proofs.YtiaoehjldbnpkaaW.PrintMore
attribute [local go_sem] max2_int min2_int max_two min_two max_three min_three max_four min_four   -- for this text's walks alone
set_option linter.unusedVariables false
set_option linter.unusedSimpArgs false

/-! ### waggonerref01_may: function 43 -/
def waggonerref01_may.f (a0 : Int) : Option (Bool) := if a0 = 1 then (some true) else (if a0 = 2 then (some true) else (if a0 = 4 then (some true) else (some (a0 == 8))))
set_option maxHeartbeats 8000000 in
set_option maxRecDepth 100000 in
theorem waggonerref01_may.calls (a0 : Int) (r : Bool) (w : World) (h : waggonerref01_may.f a0 = some r) :
    Calls Try.prog 43 #[.int .i64 a0] w fun e w' => e = .returned (.bool r) ∧ Drawn0 w w' := by
  have H : (if a0 = 1 then (some true) else (if a0 = 2 then (some true) else (if a0 = 4 then (some true) else (some (a0 == 8))))) = some r := h
  clear h
  by_cases c2 : a0 = 1
  · rw [if_pos c2] at H
    have c2b0 : (a0 == 1) = true := beq_iff_eq.mpr c2
    have c2b1 : (a0 != 1) = false := bne_eq_false_iff_eq.mpr c2
    clear c2
    obtain rfl := Option.some.inj H
    go_enter Try.func43, Try.ntmps43
    go_wp2
    go_ret
    exact ⟨by first | rfl | (simp; done) | (simp [*]; done), by repeat (first | exact Drawn0.refl _ | apply Drawn0.step)⟩
  · rw [if_neg c2] at H
    have c2b0 : (a0 == 1) = false := beq_eq_false_iff_ne.mpr c2
    have c2b1 : (a0 != 1) = true := bne_iff_ne.mpr c2
    by_cases c3 : a0 = 2
    · rw [if_pos c3] at H
      have c3b0 : (a0 == 2) = true := beq_iff_eq.mpr c3
      have c3b1 : (a0 != 2) = false := bne_eq_false_iff_eq.mpr c3
      clear c3
      obtain rfl := Option.some.inj H
      go_enter Try.func43, Try.ntmps43
      go_wp2
      go_ret
      exact ⟨by first | rfl | (simp; done) | (simp [*]; done), by repeat (first | exact Drawn0.refl _ | apply Drawn0.step)⟩
    · rw [if_neg c3] at H
      have c3b0 : (a0 == 2) = false := beq_eq_false_iff_ne.mpr c3
      have c3b1 : (a0 != 2) = true := bne_iff_ne.mpr c3
      by_cases c4 : a0 = 4
      · rw [if_pos c4] at H
        have c4b0 : (a0 == 4) = true := beq_iff_eq.mpr c4
        have c4b1 : (a0 != 4) = false := bne_eq_false_iff_eq.mpr c4
        clear c4
        obtain rfl := Option.some.inj H
        go_enter Try.func43, Try.ntmps43
        go_wp2
        go_ret
        exact ⟨by first | rfl | (simp; done) | (simp [*]; done), by repeat (first | exact Drawn0.refl _ | apply Drawn0.step)⟩
      · rw [if_neg c4] at H
        have c4b0 : (a0 == 4) = false := beq_eq_false_iff_ne.mpr c4
        have c4b1 : (a0 != 4) = true := bne_iff_ne.mpr c4
        obtain rfl := Option.some.inj H
        go_enter Try.func43, Try.ntmps43
        go_wp2
        go_ret
        exact ⟨by first | rfl | (simp; done) | (simp [*]; done), by repeat (first | exact Drawn0.refl _ | apply Drawn0.step)⟩

end Go.Proofs.Ytiaoehjldbnpkaa.PT

namespace Go.Proofs.Ytiaoehjldbnpkaa.PT
open Go.RowKit Go.Proofs.YtiaoehjldbnpkaaW.PrintWords Go.Proofs.YtiaoehjldbnpkaaW.PrintLast Go.Proofs.YtiaoehjldbnpkaaW.PrintMore
attribute [local go_sem] max2_int min2_int max_two min_two max_three min_three max_four min_four   -- for this text's walks alone
set_option linter.unusedVariables false
set_option linter.unusedSimpArgs false

/-! ### waggonerref01_Put_p: function 28 -/
mutual
def waggonerref01_Put_p.j0 : Nat → List Int → Int → Int → Bool → Option (List Int × Int)
  | 0, _, _, _, _ => none
  | k + 1, x0, x1, x2, x26 => if x26 = true then (some (([] : List Int), 10)) else ((some (([] : List Int) : List Int)).bind fun y117 => (if y117.length + x0.length < 140737488355328 then (waggonerref01_Put_p.l0 k x1 x2 (y117 ++ x0) 0) else (none)))
def waggonerref01_Put_p.l0 : Nat → Int → Int → List Int → Int → Option (List Int × Int)
  | 0, _, _, _, _ => none
  | k + 1, x1, x2, x9, x10 => if x10 < x2 then (if 0 ≤ (IntKind.u64.wrap (wrap64 (8 * x10))) then (if x9.length < 140737488355328 then (waggonerref01_Put_p.l0 k x1 x2 (x9 ++ [(shr .u64 x1 (IntKind.u64.wrap (wrap64 (8 * x10)))) % 256]) (wrap64 (x10 + 1))) else (none)) else (none)) else (some (x9, 0))
end
def waggonerref01_Put_p.f (k : Nat) (l0 : List Int) (a1 : Int) (a2 : Int) : Option (List Int × Int) := (waggonerref01_may.f a2).bind fun t116 => (if t116 = true then (if a2 < 8 then (if 0 ≤ (IntKind.u64.wrap (wrap64 (8 * a2))) then (waggonerref01_Put_p.j0 k l0 a1 a2 ((shr .u64 a1 (IntKind.u64.wrap (wrap64 (8 * a2)))) != 0)) else (none)) else (waggonerref01_Put_p.j0 k l0 a1 a2 false)) else (waggonerref01_Put_p.j0 k l0 a1 a2 true))
theorem waggonerref01_Put_p.mono_l : ∀ k, (∀ y0 y1 y2 y3, LeO (waggonerref01_Put_p.j0 k y0 y1 y2 y3) (waggonerref01_Put_p.j0 (k + 1) y0 y1 y2 y3)) ∧ (∀ y0 y1 y2 y3, LeO (waggonerref01_Put_p.l0 k y0 y1 y2 y3) (waggonerref01_Put_p.l0 (k + 1) y0 y1 y2 y3))
  | 0 => ⟨fun _ _ _ _ r h => by simp [waggonerref01_Put_p.j0] at h, fun _ _ _ _ r h => by simp [waggonerref01_Put_p.l0] at h⟩
  | k + 1 => by
    obtain ⟨ih0, ih1⟩ := waggonerref01_Put_p.mono_l k
    refine ⟨?_, ?_⟩
    · intro y0 y1 y2 y3
      unfold waggonerref01_Put_p.j0
      repeat' first
      | (with_reducible exact ih0 _ _ _ _)
      | (with_reducible exact ih1 _ _ _ _)
      | (with_reducible exact LeO.refl _)
      | (with_reducible exact LeO.none _)
      | (with_reducible refine LeO.ite ?_ ?_)
      | (with_reducible refine LeO.bind ?_ (fun _ => ?_))
      | exact ih0 _ _ _ _
      | exact ih1 _ _ _ _
      | exact LeO.none _
      | refine LeO.ite ?_ ?_
      | refine LeO.bind ?_ (fun _ => ?_)
    · intro y0 y1 y2 y3
      unfold waggonerref01_Put_p.l0
      repeat' first
      | (with_reducible exact ih0 _ _ _ _)
      | (with_reducible exact ih1 _ _ _ _)
      | (with_reducible exact LeO.refl _)
      | (with_reducible exact LeO.none _)
      | (with_reducible refine LeO.ite ?_ ?_)
      | (with_reducible refine LeO.bind ?_ (fun _ => ?_))
      | exact ih0 _ _ _ _
      | exact ih1 _ _ _ _
      | exact LeO.none _
      | refine LeO.ite ?_ ?_
      | refine LeO.bind ?_ (fun _ => ?_)
theorem waggonerref01_Put_p.mono : ∀ a0 a1 a2 k, LeO (waggonerref01_Put_p.f k a0 a1 a2) (waggonerref01_Put_p.f (k + 1) a0 a1 a2) := by
  intro a0 a1 a2 k
  obtain ⟨ih0, ih1⟩ := waggonerref01_Put_p.mono_l k
  unfold waggonerref01_Put_p.f
  repeat' first
      | (with_reducible exact ih0 _ _ _ _)
      | (with_reducible exact ih1 _ _ _ _)
      | (with_reducible exact LeO.refl _)
      | (with_reducible exact LeO.none _)
      | (with_reducible refine LeO.ite ?_ ?_)
      | (with_reducible refine LeO.bind ?_ (fun _ => ?_))
      | exact ih0 _ _ _ _
      | exact ih1 _ _ _ _
      | exact LeO.none _
      | refine LeO.ite ?_ ?_
      | refine LeO.bind ?_ (fun _ => ?_)
set_option maxHeartbeats 8000000 in
set_option maxRecDepth 100000 in
theorem waggonerref01_Put_p.calls (k : Nat) (A0 : Option Addr) (c0 : Nat) (l0 : List Int) (a1 : Int) (a2 : Int) (r1 : List Int) (r2 : Int) (w : World) (hr0 : Kd.C (Kd.int .u8) w A0 l0.length l0) (hc0 : l0.length ≤ c0) (h : waggonerref01_Put_p.f k l0 a1 a2 = some (r1, r2)) :
    Calls Try.prog 28 #[.slice A0 l0.length c0, .int .u64 a1, .int .i64 a2] w fun e w' => ∃ v0_ : Value, e = .returned (.tuple #[v0_, .int .i64 r2]) ∧ Kd.R (Kd.int .u8) 5 w' w.heap.size (fun _ => True) v0_ r1 ∧ Below w.heap.size w w' := by
  have HR0 := Aside0.mk hr0
  have HC0 := Aside0.mk hc0
  clear hr0 hc0
  have HB := Aside0.mk (Below.refl w.heap.size w)
  have H : ((waggonerref01_may.f a2).bind fun t116 => (if t116 = true then (if a2 < 8 then (if 0 ≤ (IntKind.u64.wrap (wrap64 (8 * a2))) then (waggonerref01_Put_p.j0 k l0 a1 a2 ((shr .u64 a1 (IntKind.u64.wrap (wrap64 (8 * a2)))) != 0)) else (none)) else (waggonerref01_Put_p.j0 k l0 a1 a2 false)) else (waggonerref01_Put_p.j0 k l0 a1 a2 true))) = some (r1, r2) := h
  clear h
  replace H := Option.bind_eq_some_iff.mp H
  obtain ⟨t116, A40, H⟩ := H
  replace H : (if t116 = true then (if a2 < 8 then (if 0 ≤ (IntKind.u64.wrap (wrap64 (8 * a2))) then (waggonerref01_Put_p.j0 k l0 a1 a2 ((shr .u64 a1 (IntKind.u64.wrap (wrap64 (8 * a2)))) != 0)) else (none)) else (waggonerref01_Put_p.j0 k l0 a1 a2 false)) else (waggonerref01_Put_p.j0 k l0 a1 a2 true)) = some (r1, r2) := H
  have A4 := Aside0.mk A40
  clear A40
  have HC5 := Aside0.mk H
  clear H
  go_enter Try.func28, Try.ntmps28
  go_upto_region 2 with (first | ((with_reducible refine gate_callee (f := 43) rfl ?_); refine goesL_ (some 12) rfl rfl Try.func43 (by kernel_rfl) rfl #[.int .i64 a2] rfl (by (try simp only [List.map_toArray, List.map_cons, List.map_nil]); first | done | rfl | (simp only [List.length_drop, List.length_take]; rfl)) ?_; (with_reducible refine (waggonerref01_may.calls a2 t116 _ A4.out).mono ?_); rintro e w' ⟨rfl, ⟨nd, rfl⟩⟩; refine ⟨_, rfl, ?_⟩))
  (try simp only [Act.put, List.setIfInBounds_toArray, List.set_cons_zero, List.set_cons_succ])
  go_cut [26] (fun v26 wc => ∃ (kq : Nat) (x26_4 : Bool), v26 = .bool x26_4 ∧ Aside0 (waggonerref01_Put_p.j0 kq l0 a1 a2 x26_4 = some (r1, r2)) ∧ Aside0 (kq ≤ k) ∧ Aside0 (Below w.heap.size w wc))
  case first =>
    have H := HC5.out
    clear HC5
    by_cases c6 : t116 = true
    · subst c6
      have H1 : (if a2 < 8 then (if 0 ≤ (IntKind.u64.wrap (wrap64 (8 * a2))) then (waggonerref01_Put_p.j0 k l0 a1 a2 ((shr .u64 a1 (IntKind.u64.wrap (wrap64 (8 * a2)))) != 0)) else (none)) else (waggonerref01_Put_p.j0 k l0 a1 a2 false)) = some (r1, r2) := by rw [if_pos rfl] at H; exact H
      clear H
      have H := H1
      clear H1
      by_cases c7 : a2 < 8
      · rw [if_pos c7] at H
        have c7b0 : decide (a2 < 8) = true := decide_eq_true c7
        clear c7
        (first | rw [c7b0] | (simp only [i64_w, i32_w]; rw [c7b0]) | skip)
        obtain ⟨ji8, hji8⟩ : ∃ j_ : Int, (IntKind.u64.wrap (wrap64 (8 * a2))) = j_ := ⟨_, rfl⟩
        replace H : (if 0 ≤ (ji8) then (waggonerref01_Put_p.j0 k l0 a1 a2 ((shr .u64 a1 (ji8)) != 0)) else (none)) = some (r1, r2) := by first | (rw [hji8] at H; exact H) | (simp only [hji8] at H ⊢; exact H)
        by_cases c9 : 0 ≤ (ji8)
        · rw [if_pos c9] at H
          have c9b0 := eq_true c9
          have c9b1 : decide (0 ≤ (ji8)) = true := decide_eq_true c9
          clear c9
          obtain ⟨ji10, hji10⟩ : ∃ j_ : Int, (shr .u64 a1 (ji8)) = j_ := ⟨_, rfl⟩
          replace H : (waggonerref01_Put_p.j0 k l0 a1 a2 ((ji10) != 0)) = some (r1, r2) := by first | (rw [hji10] at H; exact H) | (simp only [hji10] at H ⊢; exact H)
          have hji10_ : (a1 / 2 ^ min (ji8).toNat 64) = ji10 := hji10
          have hji10z : (ji8) ≤ 64 → (a1 / 2 ^ (ji8).toNat) = ji10 := shr_small hji10
          have H' := Aside0.mk H
          clear H
          go_wp2
          go_meet
          case rel => exact ⟨_, (((ji10) != 0)), (by first | rfl | (simp; done) | (simp only [← hji10] <;> (first | rfl | simp)) | (simp [*]; done)), H', ⟨by first | omega | exact Nat.le_refl _⟩, ⟨by repeat (first | (with_reducible first | exact HB.out | apply below_alloc | apply pw_below_drewN | apply below_drew1) | exact HB.out)⟩⟩
        · rw [if_neg c9] at H
          exact absurd H (by simp)
      · rw [if_neg c7] at H
        have c7b0 : decide (a2 < 8) = false := decide_eq_false c7
        clear c7
        (first | rw [c7b0] | (simp only [i64_w, i32_w]; rw [c7b0]) | skip)
        have H' := Aside0.mk H
        clear H
        go_wp2
        go_meet
        case rel => exact ⟨_, (false), (by first | rfl | (simp; done) | (simp [*]; done)), H', ⟨by first | omega | exact Nat.le_refl _⟩, ⟨by repeat (first | (with_reducible first | exact HB.out | apply below_alloc | apply pw_below_drewN | apply below_drew1) | exact HB.out)⟩⟩
    · replace c6 := Bool.eq_false_iff.mpr c6
      subst c6
      have H1 : (waggonerref01_Put_p.j0 k l0 a1 a2 true) = some (r1, r2) := by rw [if_neg (show ¬ (false = true) by decide)] at H; exact H
      clear H
      have H := H1
      clear H1
      have H' := Aside0.mk H
      clear H
      go_wp2
      go_meet
      case rel => exact ⟨_, (true), (by first | rfl | (simp; done) | (simp [*]; done)), H', ⟨by first | omega | exact Nat.le_refl _⟩, ⟨by repeat (first | (with_reducible first | exact HB.out | apply below_alloc | apply pw_below_drewN | apply below_drew1) | exact HB.out)⟩⟩
  case rest =>
    clear HC5
    try clear c2
    try clear p2
    try clear c4
    try clear c6
    try clear p6
    try clear c7
    try clear c7b0
    try clear c9
    try clear c9b0
    try clear c9b1
    obtain ⟨kq, x26_4, rfl, HA, HJ4, HB⟩ := hcut
    cases kq with
    | zero => exact absurd HA.out (by simp [waggonerref01_Put_p.j0])
    | succ kj4 =>
      have H := HA.out
      clear HA
      simp only [waggonerref01_Put_p.j0] at H
      by_cases c11 : x26_4 = true
      · subst c11
        have H1 : (some (([] : List Int), 10)) = some (r1, r2) := by rw [if_pos rfl] at H; exact H
        clear H
        have H := H1
        clear H1
        simp only [Option.some.injEq, Prod.mk.injEq] at H
        obtain ⟨rfl, rfl⟩ := H
        go_wp2
        go_ret2
        exact ⟨_, by first | rfl | (simp [errW_none, errW_some] <;> rfl) | (simp [*, errW_none, errW_some] <;> rfl), by first | exact Kd.R_nil _ _ _ _ _ | exact Kd.N_nil _ _ _ _ _ | exact Kd.V_nil _ _ _ _ _ | exact Kd.Q_nil _ _ _ _ _ | exact Kd.S_nil _ _ _ _ _, by repeat (first | (with_reducible first | exact HB.out | apply below_alloc | apply pw_below_drewN | apply below_drew1) | exact HB.out)⟩
      · replace c11 := Bool.eq_false_iff.mpr c11
        subst c11
        have H1 : ((some (([] : List Int) : List Int)).bind fun y117 => (if y117.length + l0.length < 140737488355328 then (waggonerref01_Put_p.l0 kj4 a1 a2 (y117 ++ l0) 0) else (none))) = some (r1, r2) := by rw [if_neg (show ¬ (false = true) by decide)] at H; exact H
        clear H
        have H := H1
        clear H1
        obtain ⟨y117, hy117⟩ : ∃ y_ : List Int, y_ = (([] : List Int)) := ⟨_, rfl⟩
        replace H : (if y117.length + l0.length < 140737488355328 then (waggonerref01_Put_p.l0 kj4 a1 a2 (y117 ++ l0) 0) else (none)) = some (r1, r2) := by first | (rw [hy117]; with_reducible exact H) | (have H2_ := (Option.bind_some _ _).symm.trans H; rw [hy117]; with_reducible exact H2_) | (have H2_ := (Option.bind_some _ _).symm.trans H; with_reducible exact H2_) | with_reducible exact H | (rw [hy117]; exact H) | exact H
        have Ny117 := Aside0.mk hy117
        clear hy117
        by_cases c12 : y117.length + l0.length < 140737488355328
        · rw [if_pos c12] at H
          have LMc12 := Aside0.mk c12
          clear c12
          obtain ⟨y120, hy120⟩ : ∃ y_ : List Int, y_ = (y117 ++ l0) := ⟨_, rfl⟩
          replace H : (waggonerref01_Put_p.l0 kj4 a1 a2 y120 0) = some (r1, r2) := by first | (rw [hy120]; with_reducible exact H) | (have H2_ := (Option.bind_some _ _).symm.trans H; rw [hy120]; with_reducible exact H2_) | (have H2_ := (Option.bind_some _ _).symm.trans H; with_reducible exact H2_) | with_reducible exact H | (rw [hy120]; exact H) | exact H
          have Ny120 := Aside0.mk hy120
          clear hy120
          have H' := Aside0.mk H
          clear H
          go_wp2_with (first | ((with_reducible refine gate_dst (N := 27) rfl ?_); refine Kd.R_lit (Kd.int .u8) _ 5 ?hg (N := 27) ?hd (xs := ([] : List Int)) (inner := []) (ok := fun _ => True) (okp := fun _ => True) ?hr ?hp (fun _ hk => hk) trivial (Below.refl _ _) (Nat.le_refl _) (by simp) ?_; (case hd => rfl); (case hg => rfl); (case hr => first | (go_simp; done) | (go_simp; rfl)); (case hp => exact (Reps.none _ _)); intro v118 w13 ho14 hb hg_ hnew_; clear hg_ hnew_; (first | rw [← Ny117.out] at ho14 | (simp only [Int.reduceToNat] at ho14; rw [← Ny117.out] at ho14)); have n0_ := Aside0.mk (Kd.R_lower ho14 (below_size (by repeat (first | (with_reducible first | exact HB.out | apply below_alloc | apply pw_below_drewN | apply below_drew1) | exact HB.out)))); have n1_ := Aside0.mk (below_step (by repeat (first | (with_reducible first | exact HB.out | apply below_alloc | apply pw_below_drewN | apply below_drew1) | exact HB.out)) hb); clear HB; have HO119 := n0_; have HB := n1_; clear n0_ n1_; clear hb ho14) | ((with_reducible refine gate_builtin (b := .append) (xs := #[.tmp 27, .tmp 28]) rfl ?_); at_builtin; refine Kd.R_append_rows (Kd.int .u8) (w0 := w) w.heap.size rfl (.tmp 27) (.tmp 28) 23 5 (.int .u8 0) 1 rfl Try.underlying23 info5 rfl (by decide) (by omega) v118 y117 l0 _ _ _ (fun _ => True) (fun _ => False) rfl rfl ?aO ?aR (fun _ _ h => h) (fun _ h => h.elim) ?aF ?aB ?aS ?aL ?_; (case aR => repeat (first | exact (Kd.C_below HR0.out HB.out) | (with_reducible refine Kd.C_alloc ?_ _) | (with_reducible refine Kd.C_drewN ?_ _) | (with_reducible refine Kd.C_drew ?_))); (case aB => exact (by repeat (first | (with_reducible first | exact HB.out | apply below_alloc | apply pw_below_drewN | apply below_drew1) | exact HB.out))); (case aF => exact (fun _ _ => trivial)); (case aO => exact (by (with_reducible repeat (first | apply Kd.R_alloc | apply Kd.R_drewN | apply Kd.R_drew)); exact HO119.out)); (case aS => exact (below_size (by repeat (first | (with_reducible first | exact HB.out | apply below_alloc | apply pw_below_drewN | apply below_drew1) | exact HB.out)))); (case aL => have := LMc12.out; omega); intro v121 w15 ho hb hg hat; rw [← Ny120.out] at ho; have n0_ := Aside0.mk (hb); have n1_ := Aside0.mk (ho); clear HB; clear HO119; have HB := n0_; have HO122 := n1_; clear n0_ n1_; clear ho hb hg hat))
          go_loopg [9, 10] kj4 (fun kq v9 v10 w' => ∃ (x9_2 : List Int) (x10_2 : Int), v10 = .int .i64 x10_2 ∧ Aside0 (waggonerref01_Put_p.l0 kq a1 a2 x9_2 x10_2 = some (r1, r2)) ∧ Aside0 (kq ≤ kj4) ∧ Aside0 (Kd.R (Kd.int .u8) 5 w' w.heap.size (fun _ => True) v9 x9_2) ∧ Aside0 (Below w.heap.size w w'))
          case atStart => exact ⟨(y120), (0), (by first | rfl | (simp; done) | (simp [*]; done)), H', ⟨Nat.le_refl _⟩, ⟨by (with_reducible repeat (first | apply Kd.R_alloc | apply Kd.R_drewN | apply Kd.R_drew)); exact HO122.out⟩, ⟨by repeat (first | (with_reducible first | exact HB.out | apply below_alloc | apply pw_below_drewN | apply below_drew1) | exact HB.out)⟩⟩
          case round =>
            clear H'
            try clear c1
            try clear c2
            try clear p2
            try clear c4
            try clear c6
            try clear p6
            try clear c7
            try clear c7b0
            try clear c9
            try clear c9b0
            try clear c9b1
            try clear c11
            try clear c12
            try clear p2
            try clear p6
            obtain ⟨x9_2, x10_2, rfl, HA, HK2, HO_9, HB⟩ := hrel
            cases gk with
            | zero => exact absurd HA.out (by simp [waggonerref01_Put_p.l0])
            | succ k2 =>
              have H := HA.out
              clear HA
              simp only [waggonerref01_Put_p.l0] at H
              by_cases c16 : x10_2 < a2
              · rw [if_pos c16] at H
                have c16b0 : decide (x10_2 < a2) = true := decide_eq_true c16
                clear c16
                obtain ⟨ji17, hji17⟩ : ∃ j_ : Int, (IntKind.u64.wrap (wrap64 (8 * x10_2))) = j_ := ⟨_, rfl⟩
                replace H : (if 0 ≤ (ji17) then (if x9_2.length < 140737488355328 then (waggonerref01_Put_p.l0 k2 a1 a2 (x9_2 ++ [(shr .u64 a1 (ji17)) % 256]) (wrap64 (x10_2 + 1))) else (none)) else (none)) = some (r1, r2) := by first | (rw [hji17] at H; exact H) | (simp only [hji17] at H ⊢; exact H)
                by_cases c18 : 0 ≤ (ji17)
                · rw [if_pos c18] at H
                  have c18b0 := eq_true c18
                  have c18b1 : decide (0 ≤ (ji17)) = true := decide_eq_true c18
                  clear c18
                  obtain ⟨ji19, hji19⟩ : ∃ j_ : Int, (shr .u64 a1 (ji17)) = j_ := ⟨_, rfl⟩
                  replace H : (if x9_2.length < 140737488355328 then (waggonerref01_Put_p.l0 k2 a1 a2 (x9_2 ++ [(ji19) % 256]) (wrap64 (x10_2 + 1))) else (none)) = some (r1, r2) := by first | (rw [hji19] at H; exact H) | (simp only [hji19] at H ⊢; exact H)
                  have hji19_ : (a1 / 2 ^ min (ji17).toNat 64) = ji19 := hji19
                  have hji19z : (ji17) ≤ 64 → (a1 / 2 ^ (ji17).toNat) = ji19 := shr_small hji19
                  by_cases c20 : x9_2.length < 140737488355328
                  · rw [if_pos c20] at H
                    have LMc20 := Aside0.mk c20
                    clear c20
                    obtain ⟨y123, hy123⟩ : ∃ y_ : List Int, y_ = (x9_2 ++ [(ji19) % 256]) := ⟨_, rfl⟩
                    replace H : (waggonerref01_Put_p.l0 k2 a1 a2 y123 (wrap64 (x10_2 + 1))) = some (r1, r2) := by first | (rw [hy123]; with_reducible exact H) | (have H2_ := (Option.bind_some _ _).symm.trans H; rw [hy123]; with_reducible exact H2_) | (have H2_ := (Option.bind_some _ _).symm.trans H; with_reducible exact H2_) | with_reducible exact H | (rw [hy123]; exact H) | exact H
                    have Ny123 := Aside0.mk hy123
                    clear hy123
                    have H' := Aside0.mk H
                    clear H
                    go_wp2_with (first | ((with_reducible refine gate_builtin (b := .append) (xs := #[.tmp 35, .tmp 42]) rfl ?_); at_builtin; refine Kd.R_append (Kd.int .u8) (w0 := w) w.heap.size rfl (.tmp 35) (.tmp 42) 23 5 (.int .u8 0) 1 rfl Try.underlying23 info5 rfl (by decide) (by omega) u9 x9_2 ((ji19) % 256) [.int .u8 ((ji19) % 256)] (fun _ => True) (fun _ => False) rfl rfl ?aP (fun _ hk => hk.elim) ?aF ?aO ?aB ?aS ?aL ?_; (case aP => exact rfl); (case aB => exact (by repeat (first | (with_reducible first | exact HB.out | apply below_alloc | apply pw_below_drewN | apply below_drew1) | exact HB.out))); (case aF => exact (fun _ _ => trivial)); (case aO => exact (by (with_reducible repeat (first | apply Kd.R_alloc | apply Kd.R_drewN | apply Kd.R_drew)); exact HO_9.out)); (case aS => exact (below_size (by repeat (first | (with_reducible first | exact HB.out | apply below_alloc | apply pw_below_drewN | apply below_drew1) | exact HB.out)))); (case aL => have := LMc20.out; omega); intro v124 w21 ho hb hg hat; rw [← Ny123.out] at ho; have n0_ := Aside0.mk (hb); have n1_ := Aside0.mk (ho); clear HB; clear HO_9; have HB := n0_; have HO125 := n1_; clear n0_ n1_; clear ho hb hg hat))
                    go_roundg k2
                    case measure => have := HJ4.out; have := HK2.out; omega
                    case rel => exact ⟨(y123), (wrap64 (x10_2 + 1)), (by first | rfl | (simp; done) | (simp [*]; done)), H', ⟨by have := HJ4.out; have := HK2.out; omega⟩, ⟨by (with_reducible repeat (first | apply Kd.R_alloc | apply Kd.R_drewN | apply Kd.R_drew)); exact HO125.out⟩, ⟨by repeat (first | (with_reducible first | exact HB.out | apply below_alloc | apply pw_below_drewN | apply below_drew1) | exact HB.out)⟩⟩
                  · rw [if_neg c20] at H
                    exact absurd H (by simp)
                · rw [if_neg c18] at H
                  exact absurd H (by simp)
              · rw [if_neg c16] at H
                have c16b0 : decide (x10_2 < a2) = false := decide_eq_false c16
                clear c16
                simp only [Option.some.injEq, Prod.mk.injEq] at H
                obtain ⟨rfl, rfl⟩ := H
                go_wp2
                go_ret2
                exact ⟨_, by first | rfl | (simp [errW_none, errW_some] <;> rfl) | (simp [*, errW_none, errW_some] <;> rfl), by (with_reducible repeat (first | apply Kd.R_alloc | apply Kd.R_drewN | apply Kd.R_drew)); exact HO_9.out, by repeat (first | (with_reducible first | exact HB.out | apply below_alloc | apply pw_below_drewN | apply below_drew1) | exact HB.out)⟩
        · rw [if_neg c12] at H
          exact absurd H (by simp)

end Go.Proofs.Ytiaoehjldbnpkaa.PT

namespace Go.Proofs.Ytiaoehjldbnpkaa.PT
open Go.RowKit Go.Proofs.YtiaoehjldbnpkaaW.PrintWords Go.Proofs.YtiaoehjldbnpkaaW.PrintLast Go.Proofs.YtiaoehjldbnpkaaW.PrintMore
attribute [local go_sem] max2_int min2_int max_two min_two max_three min_three max_four min_four   -- for this text's walks alone
set_option linter.unusedVariables false
set_option linter.unusedSimpArgs false

/-! ### waggonerref01_Put: function 28 -/
def waggonerref01_Put.f (l0 : List Int) (a1 : Int) (a2 : Int) : Option (List Int × Int) := if 0 ≤ a1 ∧ a1 < 18446744073709551616 ∧ l0.length < 70368744177664 then some (Pl.putS l0 a1 a2) else none
theorem waggonerref01_may.tells (s : Int) : waggonerref01_may.f s = some (Pl.okS s) := by
  unfold waggonerref01_may.f Pl.okS
  by_cases h1 : s = 1
  · subst h1; rfl
  by_cases h2 : s = 2
  · subst h2; rfl
  by_cases h4 : s = 4
  · subst h4; rfl
  by_cases h8 : s = 8
  · subst h8; rfl
  simp [h1, h2, h4, h8]
theorem u64_8 {x : Int} (h0 : 0 ≤ x) (h1 : x ≤ 8) : IntKind.u64.wrap (wrap64 (8 * x)) = 8 * x := by
  have e : wrap64 (8 * x) = 8 * x := by unfold wrap64; omega
  rw [e, IntKind.wrap_u64]
  omega
theorem shr_8 (n i : Nat) (hi : i ≤ 8) : shr .u64 (n : Int) (8 * (i : Int)) = ((n / 2 ^ (8 * i) : Nat) : Int) := by
  unfold shr
  rw [show (8 * (i : Int)).toNat = 8 * i from by omega, Nat.min_eq_left (show 8 * i ≤ IntKind.u64.bits from by show 8 * i ≤ 64; omega)]
  push_cast
  rfl
theorem waggonerref01_Put.loop : ∀ (d : Nat) (k : Nat) (n : Nat) (l : List Int) (s i : Nat), d < k → i + d = s → s ≤ 8 → l.length + d < 140737488355328 → waggonerref01_Put_p.l0 k (n : Int) (s : Int) l (i : Int) = some (l ++ Pl.leB d (n / 2 ^ (8 * i)), 0)
  | 0, k, n, l, s, i, hk, hd, hs, hl => by
    obtain ⟨k, rfl⟩ : ∃ m, k = m + 1 := ⟨k - 1, by omega⟩
    simp only [waggonerref01_Put_p.l0]
    rw [if_neg (by omega), Pl.leB, List.append_nil]
  | d + 1, k, n, l, s, i, hk, hd, hs, hl => by
    obtain ⟨k, rfl⟩ : ∃ m, k = m + 1 := ⟨k - 1, by omega⟩
    simp only [waggonerref01_Put_p.l0]
    rw [if_pos (by omega), u64_8 (by omega) (by omega), if_pos (by omega), if_pos (by omega), shr_8 n i (by omega), show wrap64 ((i : Int) + 1) = ((i + 1 : Nat) : Int) from by unfold wrap64; omega,
      waggonerref01_Put.loop d k n _ s (i + 1) (by omega) (by omega) hs (by rw [List.length_append, List.length_singleton]; omega)]
    rw [Pl.leB, List.append_assoc, List.singleton_append, show n / 2 ^ (8 * (i + 1)) = n / 2 ^ (8 * i) / 256 from by rw [Nat.div_div_eq_div_mul, show 8 * (i + 1) = 8 * i + 8 from by omega, Nat.pow_add]]
    rfl
theorem waggonerref01_Put.tells {l0 : List Int} {a1 a2 : Int} {r : List Int × Int} (h : waggonerref01_Put.f l0 a1 a2 = some r) : waggonerref01_Put_p.f 11 l0 a1 a2 = some r := by
  unfold waggonerref01_Put.f at h
  split at h
  case isFalse => cases h
  rename_i hh
  obtain ⟨h0, h1, h2⟩ := hh
  obtain rfl := Option.some.inj h
  obtain ⟨n, rfl⟩ := Int.eq_ofNat_of_zero_le h0
  have hgo : ∀ s : Nat, s ≤ 8 → waggonerref01_Put_p.j0 11 l0 (n : Int) (s : Int) false = some (l0 ++ Pl.leB s n, 0) := by
    intro s hs
    simp only [waggonerref01_Put_p.j0]
    rw [if_neg (by decide), Option.bind_some, if_pos (by rw [List.length_nil]; omega), List.nil_append]
    have := waggonerref01_Put.loop s 10 n l0 s 0 (by omega) (by omega) hs (by omega)
    rw [Nat.mul_zero, Nat.pow_zero, Nat.div_one] at this
    exact this
  unfold waggonerref01_Put_p.f
  rw [waggonerref01_may.tells, Option.bind_some]
  unfold Pl.putS
  by_cases hs : Pl.okS a2 = true
  · rw [if_pos hs]
    rcases Pl.okS_iff.1 hs with rfl | rfl | rfl | rfl
    · rw [if_pos (by decide), u64_8 (by decide) (by decide), if_pos (by decide), Pl.fits_1, show (8 * (1 : Int)) = 8 * ((1 : Nat) : Int) from rfl, shr_8 n 1 (by decide)]
      by_cases hf : (n : Int) < 256
      · rw [if_pos (decide_eq_true hf), show ((((n / 2 ^ (8 * 1) : Nat) : Int) != 0)) = false from by simp; omega]
        exact hgo 1 (by decide)
      · rw [if_neg (by simpa using hf), show ((((n / 2 ^ (8 * 1) : Nat) : Int) != 0)) = true from by simp; omega]
        rfl
    · rw [if_pos (by decide), u64_8 (by decide) (by decide), if_pos (by decide), Pl.fits_2, show (8 * (2 : Int)) = 8 * ((2 : Nat) : Int) from rfl, shr_8 n 2 (by decide)]
      by_cases hf : (n : Int) < 65536
      · rw [if_pos (decide_eq_true hf), show ((((n / 2 ^ (8 * 2) : Nat) : Int) != 0)) = false from by simp; omega]
        exact hgo 2 (by decide)
      · rw [if_neg (by simpa using hf), show ((((n / 2 ^ (8 * 2) : Nat) : Int) != 0)) = true from by simp; omega]
        rfl
    · rw [if_pos (by decide), u64_8 (by decide) (by decide), if_pos (by decide), Pl.fits_4, show (8 * (4 : Int)) = 8 * ((4 : Nat) : Int) from rfl, shr_8 n 4 (by decide)]
      by_cases hf : (n : Int) < 4294967296
      · rw [if_pos (decide_eq_true hf), show ((((n / 2 ^ (8 * 4) : Nat) : Int) != 0)) = false from by simp; omega]
        exact hgo 4 (by decide)
      · rw [if_neg (by simpa using hf), show ((((n / 2 ^ (8 * 4) : Nat) : Int) != 0)) = true from by simp; omega]
        rfl
    · rw [if_neg (by decide), if_pos (Pl.fits_8 (by omega))]
      exact hgo 8 (by decide)
  · rw [if_neg hs, if_neg (by rw [Pl.fits_no (by simpa using hs)]; decide)]
    rfl
theorem waggonerref01_Put.calls (A0 : Option Addr) (c0 : Nat) (l0 : List Int) (a1 : Int) (a2 : Int) (r1 : List Int) (r2 : Int) (w : World) (hr0 : Kd.C (Kd.int .u8) w A0 l0.length l0) (hc0 : l0.length ≤ c0) (h : waggonerref01_Put.f l0 a1 a2 = some (r1, r2)) :
    Calls Try.prog 28 #[.slice A0 l0.length c0, .int .u64 a1, .int .i64 a2] w fun e w' => ∃ v0_ : Value, e = .returned (.tuple #[v0_, .int .i64 r2]) ∧ Kd.R (Kd.int .u8) 5 w' w.heap.size (fun _ => True) v0_ r1 ∧ Below w.heap.size w w' :=
  waggonerref01_Put_p.calls 11 A0 c0 l0 a1 a2 r1 r2 w hr0 hc0 (waggonerref01_Put.tells h)

end Go.Proofs.Ytiaoehjldbnpkaa.PT

namespace Go.Proofs.Ytiaoehjldbnpkaa.PT
open Go.RowKit Go.Proofs.YtiaoehjldbnpkaaW.PrintWords Go.Proofs.YtiaoehjldbnpkaaW.PrintLast Go.Proofs.YtiaoehjldbnpkaaW.PrintMore
attribute [local go_sem] max2_int min2_int max_two min_two max_three min_three max_four min_four   -- for this text's walks alone
set_option linter.unusedVariables false
set_option linter.unusedSimpArgs false

/-! ### waggonerref02_Seal_p: function 25 -/
def waggonerref02_Seal_p.f (l0 : List Int) : Option (List Int) := (waggonerref02_More.f 0 l0).bind fun t126 => ((waggonerref01_Put.f l0 (IntKind.u64.wrap (t126)) 4).bind fun bt127 => (some bt127.1))
set_option maxHeartbeats 8000000 in
set_option maxRecDepth 100000 in
theorem waggonerref02_Seal_p.calls (A0 : Option Addr) (c0 : Nat) (l0 : List Int) (r : List Int) (w : World) (hr0 : Kd.C (Kd.int .u8) w A0 l0.length l0) (hc0 : l0.length ≤ c0) (h : waggonerref02_Seal_p.f l0 = some r) :
    Calls Try.prog 25 #[.slice A0 l0.length c0] w fun e w' => ∃ v0_ : Value, e = .returned (v0_) ∧ Kd.R (Kd.int .u8) 5 w' w.heap.size (fun _ => True) v0_ r ∧ Below w.heap.size w w' := by
  have HR0 := Aside0.mk hr0
  have HC0 := Aside0.mk hc0
  clear hr0 hc0
  have HB := Aside0.mk (Below.refl w.heap.size w)
  have H : ((waggonerref02_More.f 0 l0).bind fun t126 => ((waggonerref01_Put.f l0 (IntKind.u64.wrap (t126)) 4).bind fun bt127 => (some bt127.1))) = some r := h
  clear h
  replace H := Option.bind_eq_some_iff.mp H
  obtain ⟨t126, A20, H⟩ := H
  replace H : ((waggonerref01_Put.f l0 (IntKind.u64.wrap (t126)) 4).bind fun bt127 => (some bt127.1)) = some r := H
  have A2 := Aside0.mk A20
  clear A20
  replace H := Option.bind_eq_some_iff.mp H
  obtain ⟨⟨t127, t128⟩, A30, H⟩ := H
  replace H : (some t127) = some r := H
  have A3 := Aside0.mk A30
  clear A30
  obtain rfl := Option.some.inj H
  go_enter Try.func25, Try.ntmps25
  go_wp2_with (first | ((with_reducible refine gate_callee (f := 20) rfl ?_); refine goesL_ (some 8) rfl rfl Try.func20 (by kernel_rfl) rfl #[.int .u32 0, .slice A0 l0.length c0] rfl (by (try simp only [List.map_toArray, List.map_cons, List.map_nil]); first | done | rfl | (simp only [List.length_drop, List.length_take]; rfl)) ?_; (with_reducible refine (waggonerref02_More.calls 0 _ _ l0 t126 _ ?side1 ?side2 A2.out).mono ?_); (case side1 => repeat (first | exact HR0.out | (with_reducible refine Kd.C_alloc ?_ _) | (with_reducible refine Kd.C_drewN ?_ _) | (with_reducible refine Kd.C_drew ?_))); (case side2 => exact HC0.out); rintro e w' ⟨rfl, ⟨nd, rfl⟩⟩; refine ⟨_, rfl, ?_⟩) | ((with_reducible refine gate_callee (f := 28) rfl ?_); refine goesL_ (some 10) rfl rfl Try.func28 (by kernel_rfl) rfl #[.slice A0 l0.length c0, .int .u64 (IntKind.u64.wrap (t126)), .int .i64 4] rfl (by (try simp only [List.map_toArray, List.map_cons, List.map_nil]); first | done | rfl | (simp only [List.length_drop, List.length_take]; rfl)) ?_; (with_reducible refine (waggonerref01_Put.calls _ _ l0 (IntKind.u64.wrap (t126)) 4 t127 t128 _ ?side1 ?side2 A3.out).mono ?_); (case side1 => repeat (first | exact HR0.out | (with_reducible refine Kd.C_alloc ?_ _) | (with_reducible refine Kd.C_drewN ?_ _) | (with_reducible refine Kd.C_drew ?_))); (case side2 => exact HC0.out); rintro e w4 ⟨v129, rfl, ho0, hb⟩; refine ⟨_, rfl, ?_⟩; have n0_ := Aside0.mk (Kd.R_lower ho0 (below_size (by repeat (first | (with_reducible first | exact HB.out | apply below_alloc | apply pw_below_drewN | apply below_drew1) | exact HB.out)))); have n1_ := Aside0.mk (below_step (by repeat (first | (with_reducible first | exact HB.out | apply below_alloc | apply pw_below_drewN | apply below_drew1) | exact HB.out)) hb); clear HB; have HO130 := n0_; have HB := n1_; clear n0_ n1_; (try clear hb); (try clear hb2); (try clear hk); (try clear hi); (try clear ho0)))
  go_ret
  exact ⟨_, by first | rfl | (simp [errW_none, errW_some] <;> rfl) | (simp [*, errW_none, errW_some] <;> rfl), by (with_reducible repeat (first | apply Kd.R_alloc | apply Kd.R_drewN | apply Kd.R_drew)); exact HO130.out, by repeat (first | (with_reducible first | exact HB.out | apply below_alloc | apply pw_below_drewN | apply below_drew1) | exact HB.out)⟩

end Go.Proofs.Ytiaoehjldbnpkaa.PT

namespace Go.Proofs.Ytiaoehjldbnpkaa.PT
open Go.RowKit Go.Proofs.YtiaoehjldbnpkaaW.PrintWords Go.Proofs.YtiaoehjldbnpkaaW.PrintLast Go.Proofs.YtiaoehjldbnpkaaW.PrintMore
attribute [local go_sem] max2_int min2_int max_two min_two max_three min_three max_four min_four   -- for this text's walks alone
set_option linter.unusedVariables false
set_option linter.unusedSimpArgs false

/-! ### waggonerref02_Seal: function 25 -/
def waggonerref02_Seal.f (l0 : List Int) : Option (List Int) := if Pl.byteB l0 = true ∧ l0.length < 70368744177664 then some (Pl.seal4 l0) else none
theorem waggonerref02_Seal.calls (A0 : Option Addr) (c0 : Nat) (l0 : List Int) (r : List Int) (w : World) (hr0 : Kd.C (Kd.int .u8) w A0 l0.length l0) (hc0 : l0.length ≤ c0) (h : waggonerref02_Seal.f l0 = some r) :
    Calls Try.prog 25 #[.slice A0 l0.length c0] w fun e w' => ∃ v0_ : Value, e = .returned (v0_) ∧ Kd.R (Kd.int .u8) 5 w' w.heap.size (fun _ => True) v0_ r ∧ Below w.heap.size w w' := by
  refine waggonerref02_Seal_p.calls A0 c0 l0 r w hr0 hc0 ?_
  unfold waggonerref02_Seal.f at h
  split at h
  case isFalse => cases h
  rename_i hh
  obtain rfl := Option.some.inj h
  have hlt := Pl.sum_lt (Pl.byteB_bytes hh.1)
  unfold waggonerref02_Seal_p.f waggonerref02_More.f
  rw [if_pos ⟨by decide, by decide, hh.1, by have := hh.2; omega⟩, Option.bind_some]
  have e1 : ((Pl.more (0 : Int).toNat (Pl.nats l0) : Nat) : Int) = ((Pl.sum (Pl.nats l0) : Nat) : Int) := rfl
  rw [e1, IntKind.wrap_u64, show ((Pl.sum (Pl.nats l0) : Nat) : Int) % 18446744073709551616 = ((Pl.sum (Pl.nats l0) : Nat) : Int) from by omega]
  unfold waggonerref01_Put.f
  rw [if_pos ⟨by omega, by omega, hh.2⟩, Option.bind_some]
  unfold Pl.putS
  rw [if_pos (by rw [Pl.fits_4]; exact decide_eq_true (by omega)), Int.toNat_natCast]
  rfl

end Go.Proofs.Ytiaoehjldbnpkaa.PT

namespace Go.Proofs.Ytiaoehjldbnpkaa.PT
open Go.RowKit Go.Proofs.YtiaoehjldbnpkaaW.PrintWords Go.Proofs.YtiaoehjldbnpkaaW.PrintLast Go.Proofs.YtiaoehjldbnpkaaW.PrintMore
attribute [local go_sem] max2_int min2_int max_two min_two max_three min_three max_four min_four   -- for this text's walks alone
set_option linter.unusedVariables false
set_option linter.unusedSimpArgs false

/-! ### waggonerref02_Open: function 18 -/
def waggonerref02_Open.f (l0 : List Int) : Option (List Int × Int) := if Pl.byteB l0 = true ∧ l0.length < 70368744177664 then some (Pl.openS l0) else none
set_option maxHeartbeats 2000000 in
theorem waggonerref02_Open.calls (A0 : Option Addr) (c0 : Nat) (l0 : List Int) (r1 : List Int) (r2 : Int) (w : World) (hr0 : Kd.C (Kd.int .u8) w A0 l0.length l0) (hc0 : l0.length ≤ c0) (h : waggonerref02_Open.f l0 = some (r1, r2)) :
    Calls Try.prog 18 #[.slice A0 l0.length c0] w fun e w' => ∃ v0_ : Value, e = .returned (.tuple #[v0_, .int .i64 r2]) ∧ Kd.R (Kd.int .u8) 5 w' w.heap.size (fun _ => True) v0_ r1 ∧ Below w.heap.size w w' := by
  unfold waggonerref02_Open.f at h
  split at h
  case isFalse => cases h
  rename_i hh
  obtain ⟨hby, hlen⟩ := hh
  replace h := Option.some.inj h
  have HR0 := Aside0.mk hr0
  have HC0 := Aside0.mk hc0
  have HBY := Aside0.mk hby
  clear hr0 hc0 hby
  by_cases hlt : l0.length < 4
  · have ho : Pl.openB l0 = false := by unfold Pl.openB; rw [decide_eq_false (by omega)]; rfl
    rw [Pl.openS, if_neg (by rw [ho]; decide)] at h
    obtain ⟨rfl, rfl⟩ := Prod.mk.inj h
    clear h ho
    have d1 : decide ((l0.length : Int) < 4) = true := decide_eq_true (by omega)
    go_enter Try.func18, Try.ntmps18
    go_wp2
    go_ret2
    exact ⟨_, rfl, Kd.R_nil _ _ _ _ _, Below.refl _ _⟩
  · obtain ⟨i0, hi, hz0, hz1, hz2⟩ := info_parts info5
    obtain ⟨m, hm⟩ : ∃ m, m = l0.length - 4 := ⟨_, rfl⟩
    obtain ⟨hcut, -, hC⟩ := print_take_of (P := Try.prog) (Value.int .u8) 0 23 5 .i64 Try.underlying23 hi hz1 A0 c0 l0 ((l0.length : Int) - 4) (by omega) (by omega) HC0.out
    have e4 : ((l0.length : Int) - 4).toNat = m := by omega
    have hml : (l0.take m).length = m := by rw [List.length_take]; omega
    rw [e4, hml] at hcut hC
    have HT : Aside0 (Kd.C (Kd.int .u8) w A0 m (l0.take m)) := ⟨by have := Kx.takeC m (by omega) HR0.out; rw [hml] at this; exact this⟩
    have hbt : Pl.byteB (l0.take m) = true := Pl.byteB_iff.2 fun x hx => Pl.byteB_iff.1 HBY.out x (List.mem_of_mem_take hx)
    have hS := fun (w : World) (hr : Kd.C (Kd.int .u8) w A0 (l0.take m).length (l0.take m)) => waggonerref02_Seal.calls A0 c0 (l0.take m) _ w hr (by omega) (by unfold waggonerref02_Seal.f; rw [if_pos ⟨hbt, by omega⟩])
    rw [hml] at hS
    have HS := Aside0.mk hS
    clear hS
    have hq : Pl.openB l0 = (Pl.seal4 (l0.take m) == l0) := by unfold Pl.openB; rw [decide_eq_true (by omega), ← hm]; rfl
    have HQ := Aside0.mk hq
    have hE : ((strOfNums (Pl.seal4 (l0.take m))).toList == (strOfNums l0).toList) = Pl.openB l0 := by rw [Pl.str_eq (Pl.seal4_byte hbt) HBY.out, hq]
    have HE := Aside0.mk hE
    clear hE hq hbt
    obtain ⟨q, hqq⟩ : ∃ q, q = Pl.seal4 (l0.take m) := ⟨_, rfl⟩
    rw [← hqq] at HS HE HQ
    clear hqq
    have d1 : decide ((l0.length : Int) < 4) = false := decide_eq_false (by omega)
    obtain ⟨b, hb⟩ : ∃ b, b = Pl.openB l0 := ⟨_, rfl⟩
    rw [← hb] at HE HQ
    unfold Pl.openS at h
    rw [← hb, ← hm] at h
    clear hb
    have HM := Aside0.mk hm
    clear hm HQ
    cases b with
    | true =>
      obtain ⟨rfl, rfl⟩ := Prod.mk.inj h
      clear h
      go_enter Try.func18, Try.ntmps18
      go_wp2_with fail
      refine (HS.out _ HT.out).mono ?_
      rintro e w1 ⟨v1, rfl, ho1, hb1⟩
      obtain ⟨A1, c1, rfl, hc1, hr1⟩ := Kd.R_reads ho1
      have HB1 := Aside0.mk hb1
      have HC1 := Aside0.mk hc1
      have HR1 := Aside0.mk hr1
      have hsz : w.heap.size ≤ w1.heap.size := hb1.size
      clear ho1 hb1 hr1 hc1
      have hcv1 := Kd.C_string (P := Try.prog) (A := A1) (c := c1) Try.underlying23 Try.underlying5 Try.underlying9 HR1.out
      have hcv2 := Kd.C_string (P := Try.prog) (A := A0) (c := c0) Try.underlying23 Try.underlying5 Try.underlying9 (Kd.C_below HR0.out HB1.out)
      have e1 := HE.out
      have HB := HB1
      clear HB1
      go_wp2_with (first | ((with_reducible refine gate_dst (N := 19) rfl ?_); refine Kd.R_lit (Kd.int .u8) _ 5 ?hg (N := 19) ?hd (xs := ([] : List Int)) (inner := []) (ok := fun _ => True) (okp := fun _ => True) ?hr ?hp (fun _ hk => hk) trivial (Below.refl _ _) (Nat.le_refl _) (by simp) ?_; (case hd => rfl); (case hg => rfl); (case hr => first | (go_simp; done) | (go_simp; rfl)); (case hp => exact (Reps.none _ _)); intro v110 w13 ho14 hb hg_ hnew_; clear hg_ hnew_; have n0_ := Aside0.mk (Kd.R_lower ho14 (below_size HB.out)); have n1_ := Aside0.mk (below_step HB.out hb); clear HB; have HO111 := n0_; have HB := n1_; clear n0_ n1_; clear hb ho14) | ((with_reducible refine gate_builtin (b := .append) (xs := #[.tmp 19, .tmp 24]) rfl ?_); at_builtin; go_must (refine Kd.R_append_rows (Kd.int .u8) (w0 := w) w.heap.size rfl (.tmp 19) (.tmp 24) 23 5 (.int .u8 0) 1 rfl Try.underlying23 info5 rfl (by decide) (by omega) v110 [] (l0.take m) _ m _ (fun _ => True) (fun _ => False) rfl rfl ?aO ?aR (fun _ _ h => h) (fun _ h => h.elim) ?aF ?aB ?aS ?aL ?_); (case aR => exact (Kd.C_below HT.out HB.out)); (case aB => exact HB.out); (case aF => exact (fun _ _ => trivial)); (case aO => exact HO111.out); (case aS => exact below_size HB.out); (case aL => have := HM.out; simp; omega); intro v113 w15 ho hb hg hat; have n0_ := Aside0.mk (hb); have n1_ := Aside0.mk (ho); clear HB; clear HO111; have HB := n0_; have HO114 := n1_; clear n0_ n1_; clear ho hb hg hat))
      go_ret2
      exact ⟨_, rfl, HO114.out, HB.out⟩
    | false =>
      obtain ⟨rfl, rfl⟩ := Prod.mk.inj h
      clear h
      go_enter Try.func18, Try.ntmps18
      go_wp2_with fail
      refine (HS.out _ HT.out).mono ?_
      rintro e w1 ⟨v1, rfl, ho1, hb1⟩
      obtain ⟨A1, c1, rfl, hc1, hr1⟩ := Kd.R_reads ho1
      have HB1 := Aside0.mk hb1
      have HC1 := Aside0.mk hc1
      have HR1 := Aside0.mk hr1
      clear ho1 hb1 hr1 hc1
      have hcv1 := Kd.C_string (P := Try.prog) (A := A1) (c := c1) Try.underlying23 Try.underlying5 Try.underlying9 HR1.out
      have hcv2 := Kd.C_string (P := Try.prog) (A := A0) (c := c0) Try.underlying23 Try.underlying5 Try.underlying9 (Kd.C_below HR0.out HB1.out)
      have e1 := HE.out
      have HB := HB1
      clear HB1
      go_wp2
      go_ret2
      exact ⟨_, rfl, Kd.R_nil _ _ _ _ _, HB.out⟩

end Go.Proofs.Ytiaoehjldbnpkaa.PT

namespace Go.Proofs.Ytiaoehjldbnpkaa.PT
open Go.RowKit Go.Proofs.YtiaoehjldbnpkaaW.PrintWords Go.Proofs.YtiaoehjldbnpkaaW.PrintLast Go.Proofs.YtiaoehjldbnpkaaW.PrintMore
attribute [local go_sem] max2_int min2_int max_two min_two max_three min_three max_four min_four   -- for this text's walks alone
set_option linter.unusedVariables false
set_option linter.unusedSimpArgs false

/-! ### waggonerref02_column: function 40 -/
/-- The document's matrix of thirty-two columns. -/
def matR (f : Nat → Nat) : Array Value := Arr.numA .u32 32 (fun i => (f i : Int))
theorem matR_in {w : World} {g t : Nat} {f : Nat → Nat} (h : w.heap[g]? = some (.cells (matR f) t (0, 0))) : Arr.IsA w g t .u32 32 (fun i => (f i : Int)) := h
set_option maxHeartbeats 2000000 in
theorem waggonerref02_column.calls (f : Nat → Nat) (n : Nat) (w : World) (hf : ∀ i, i < 32 → f i < 4294967296) (hn : n < 4294967296) :
    Calls Try.prog 40 #[.agg (matR f), .int .u32 (n : Int)] w fun e w' => e = .returned (.int .u32 ((Pl.colTo f n 32 : Nat) : Int)) ∧ Below w.heap.size w w' := by
  have HF := Aside0.mk hf
  clear hf
  obtain ⟨B, hB⟩ : ∃ B, B = w.heap.size := ⟨_, rfl⟩
  have HBN := Aside0.mk hB
  clear hB
  go_enter Try.func40, Try.ntmps40
  go_wp2
  rw [← HBN.out]
  go_loopw [5, 6] (fun s i wr => ∃ (x : Nat) (k : Nat), k ≤ 32 ∧ i = .int .i64 k ∧ s = .int .u32 (x : Int) ∧ x < 4294967296 ∧ Aside0 (x = Pl.colTo f n k) ∧ Aside0 (wr.heap[B]? = some (.cells (matR f) 60 (0, 0))) ∧ Aside0 (Below w.heap.size w wr)) (fun _ i _ => 32 - (intOf i).toNat)
  case atStart => exact ⟨0, 0, by decide, rfl, rfl, by decide, ⟨rfl⟩, ⟨by rw [HBN.out]; exact heap_alloc_new w _⟩, ⟨(Below.refl _ _).alloc (Nat.le_refl _) _⟩⟩
  case round =>
    obtain ⟨x, k, hk, rfl, rfl, hx, hxe, hM, hBel⟩ := hrel
    by_cases hlt : k < 32
    · have t1 := (matR_in hM.out).cell k hlt
      have hfk := HF.out k hlt
      obtain ⟨v, hv0⟩ : ∃ v, v = f k := ⟨_, rfl⟩
      rw [← hv0] at t1 hfk
      have hv := Aside0.mk hv0
      clear hv0
      have hnk : n / 2 ^ k < 4294967296 := Nat.lt_of_le_of_lt (Nat.div_le_self _ _) hn
      have etm : ((n : Int) / 2 ^ k).tmod 2 = ((n / 2 ^ k % 2 : Nat) : Int) := by
        rw [show (n : Int) / 2 ^ k = ((n / 2 ^ k : Nat) : Int) from by push_cast; rfl, Int.tmod_eq_emod_of_nonneg (Int.natCast_nonneg _)]
        rfl
      obtain ⟨y, hy⟩ : ∃ y, y = Pl.colTo f n (k + 1) := ⟨_, rfl⟩
      have HY := Aside0.mk hy
      rw [Pl.colTo] at hy
      rcases Nat.mod_two_eq_zero_or_one (n / 2 ^ k) with e | e
      · rw [if_neg (by omega), Nat.xor_zero, ← hxe.out] at hy
        subst hy
        have hbit : (((n : Int) / 2 ^ k).tmod 2 == 1) = false := by rw [etm, e]; rfl
        clear e hnk etm
        go_wp2
        go_roundw
        case rel => exact ⟨y, k + 1, by omega, by go_num, rfl, hx, HY, hM, hBel⟩
        case measure => simp [intOf]; omega
      · rw [if_pos e, ← hxe.out, ← hv.out] at hy
        have hbit : (((n : Int) / 2 ^ k).tmod 2 == 1) = true := by rw [etm, e]; rfl
        have qc : bits .xor .u32 (x : Int) (v : Int) = (y : Int) := by rw [Arr.x32 hx hfk, hy]
        have hy32 : y < 4294967296 := by rw [hy]; exact Pl.xor_lt hx hfk
        clear e hnk hy etm
        go_wp2
        go_roundw
        case rel => exact ⟨y, k + 1, by omega, by go_num, rfl, hy32, HY, hM, hBel⟩
        case measure => simp [intOf]; omega
    · have hke : Aside0 (k = 32) := ⟨by omega⟩
      go_wp2
      go_ret
      exact ⟨congrArg (fun z : Nat => Ending.returned (.int .u32 (z : Int))) (hxe.out.trans (by rw [hke.out])), hBel.out⟩

end Go.Proofs.Ytiaoehjldbnpkaa.PT

namespace Go.Proofs.Ytiaoehjldbnpkaa.PT
open Go.RowKit Go.Proofs.YtiaoehjldbnpkaaW.PrintWords Go.Proofs.YtiaoehjldbnpkaaW.PrintLast Go.Proofs.YtiaoehjldbnpkaaW.PrintMore
attribute [local go_sem] max2_int min2_int max_two min_two max_three min_three max_four min_four   -- for this text's walks alone
set_option linter.unusedVariables false
set_option linter.unusedSimpArgs false

/-! ### waggonerref02_Join: function 23 -/
/-- What holds at the loop's head: m pairs of matrices are to come, each of e steps. -/
structure RJoin (a N x m e : Nat) : Prop where
  lt : x < 4294967296
  m30 : m ≤ 1073741824
  goes : Pl.stpN (e * m) x = Pl.stpN (8 * N) a
theorem rmat_size (f g : Nat → Nat) : (matR f).size = (matR g).size := (Arr.numA_size _ _ _).trans (Arr.numA_size _ _ _).symm
theorem rmat_info (f : Nat → Nat) : (Try.prog.info? 60).map (·.size) = some (matR f).size := by
  rw [show (matR f).size = 32 from Arr.numA_size _ _ _]
  kernel_rfl
theorem rmat_load (w : World) (g : Nat) (f : Nat → Nat) (h : w.heap[g]? = some (.cells (matR f) 60 (0, 0))) : (loadVar 60 ⟨g, 0, none⟩).run Try.prog w = .ok (.agg (matR f)) w :=
  run_loadVar_row w g 60 60 (matR f) (0, 0) _ h Try.underlying60 rfl (rmat_info f)
set_option maxHeartbeats 8000000 in
set_option maxRecDepth 100000 in
theorem waggonerref02_Join.core (a b : Nat) (n : Int) (w : World) (ha : a < 4294967296) (hb : b < 4294967296) :
    Calls Try.prog 23 #[.int .u32 (a : Int), .int .u32 (b : Int), .int .i64 n] w fun e w' => e = .returned (.int .u32 ((Pl.join a b n : Nat) : Int)) ∧ Below w.heap.size w w' := by
  obtain ⟨B, hB⟩ : ∃ B, B = w.heap.size := ⟨_, rfl⟩
  have HBN := Aside0.mk hB
  clear hB
  obtain ⟨N, hN⟩ : ∃ N : Nat, (N : Int) = min (max n 0) 1073741824 := ⟨(min (max n 0) 1073741824).toNat, by omega⟩
  have HNN := Aside0.mk hN
  clear hN
  go_enter Try.func23, Try.ntmps23
  go_wp2_with (first | ((with_reducible refine Arr.wpList_store_row rfl 60 (.tmp 7) (.tmp 14) rfl rfl w.heap.size rfl 60 _ _ rfl (heap_alloc_new w _) (by kernel_rfl) rfl (by kernel_rfl) ?_)))
  rw [← HBN.out]
  go_loopw [8] (fun i wr => ∃ (k : Nat), k ≤ 32 ∧ i = .int .i64 k ∧ Aside0 (wr.heap[B]? = some (.cells (matR (fun i => if i < k then Pl.stpN 8 (2 ^ i) else 0)) 60 (0, 0))) ∧ Aside0 (Below w.heap.size w wr)) (fun i _ => 32 - (intOf i).toNat)
  case atStart =>
    refine ⟨0, by decide, rfl, ⟨?_⟩, ⟨?_⟩⟩
    · have e0 : matR (fun i => if i < 0 then Pl.stpN 8 (2 ^ i) else 0) = #[.int .u32 0, .int .u32 0, .int .u32 0, .int .u32 0, .int .u32 0, .int .u32 0, .int .u32 0, .int .u32 0, .int .u32 0, .int .u32 0, .int .u32 0, .int .u32 0, .int .u32 0, .int .u32 0, .int .u32 0, .int .u32 0, .int .u32 0, .int .u32 0, .int .u32 0, .int .u32 0, .int .u32 0, .int .u32 0, .int .u32 0, .int .u32 0, .int .u32 0, .int .u32 0, .int .u32 0, .int .u32 0, .int .u32 0, .int .u32 0, .int .u32 0, .int .u32 0] := by kernel_rfl
      rw [e0, HBN.out]
      exact setRow_heap _ _ _ _ _ _ (heap_alloc_new w _)
    · rw [HBN.out]; exact below_setRow ((Below.refl _ _).alloc (Nat.le_refl _) _) (by omega) _
  case round =>
    obtain ⟨k, hk, rfl, hM, hBel⟩ := hrel
    by_cases hlt : k < 32
    · obtain ⟨z, hz⟩ : ∃ z, z = 2 ^ k := ⟨_, rfl⟩
      have hz32 : z < 4294967296 := by rw [hz]; exact Nat.pow_lt_pow_right (m := k) (n := 32) (by decide) hlt
      have q0 : (2 : Int) ^ k % 4294967296 = (z : Int) := by
        rw [show (2 : Int) ^ k = ((2 ^ k : Nat) : Int) from by push_cast; rfl, ← hz]
        omega
      have HZ := Aside0.mk hz
      clear hz
      have d32 : decide ((k : Int) < 32) = true := decide_eq_true (by omega)
      go_wp2
      rw [q0]
      go_loopw [9, 10] (fun s i wi => ∃ (x j : Nat), j ≤ 8 ∧ i = .int .i64 j ∧ s = .int .u32 (x : Int) ∧ x < 4294967296 ∧ Aside0 (x = Pl.stpN j z) ∧ Aside0 (wi.heap[B]? = some (.cells (matR (fun i => if i < k then Pl.stpN 8 (2 ^ i) else 0)) 60 (0, 0))) ∧ Aside0 (Below w.heap.size w wi)) (fun _ i _ => 8 - (intOf i).toNat)
      case atStart => exact ⟨z, 0, by decide, rfl, rfl, hz32, ⟨rfl⟩, hM, hBel⟩
      case round =>
        clear hM hBel
        obtain ⟨x, j, hj, rfl, rfl, hx, hxe, hM, hBel⟩ := hrel
        by_cases hj8 : j < 8
        · have HS : Aside0 (waggonerref02_step.f (x : Int) = some ((Pl.stp x : Nat) : Int)) := ⟨waggonerref02_step.tells x hx⟩
          obtain ⟨y, hy⟩ : ∃ y, y = Pl.stp x := ⟨_, rfl⟩
          have hy32 : y < 4294967296 := by rw [hy]; exact Pl.stp_lt hx
          rw [← hy] at HS
          have hye : Aside0 (y = Pl.stpN (j + 1) z) := ⟨by rw [hy, hxe.out, Pl.stpN_add j 1 z]; rfl⟩
          clear hy
          go_wp2_with (first | (go_at_call 38; refine (waggonerref02_step.calls _ _ _ HS.out).mono ?_; rintro e w1 ⟨rfl, ⟨nd, rfl⟩⟩))
          go_roundw
          case rel => exact ⟨y, j + 1, by omega, by go_num, rfl, hy32, hye, ⟨hM.out⟩, ⟨pw_below_drewN hBel.out _⟩⟩
          case measure => simp [intOf]; omega
        · have hje : Aside0 (j = 8) := ⟨by omega⟩
          have hfin : Aside0 (x = Pl.stpN 8 (2 ^ k)) := ⟨by rw [hxe.out, hje.out, HZ.out]⟩
          have tc := (matR_in hM.out).cell k hlt
          have tf := (matR_in hM.out).free k
          have hset : Aside0 ((wr.setCell ⟨B, k, none⟩ (.int .u32 (x : Int))).heap[B]? = some (.cells (matR (fun i => if i < k + 1 then Pl.stpN 8 (2 ^ i) else 0)) 60 (0, 0))) := ⟨by
            refine ((matR_in hM.out).set k hlt (x : Int)).congr fun i hi => ?_
            show (if i = k then (x : Int) else ((if i < k then Pl.stpN 8 (2 ^ i) else 0 : Nat) : Int)) = ((if i < k + 1 then Pl.stpN 8 (2 ^ i) else 0 : Nat) : Int)
            by_cases e : i = k
            · subst e; rw [if_pos rfl, if_pos (by omega), hfin.out]
            · rw [if_neg e]
              by_cases e2 : i < k
              · rw [if_pos e2, if_pos (by omega)]
              · rw [if_neg e2, if_neg (by omega)]⟩
          go_wp2
          go_roundw
          case rel => exact ⟨k + 1, by omega, by go_num, hset, ⟨hBel.out.setCell (by rw [HBN.out]; exact Nat.le_refl _) _⟩⟩
          case measure => simp [intOf]; omega
    · have hke : Aside0 (k = 32) := ⟨by omega⟩
      have d32 : decide ((k : Int) < 32) = false := decide_eq_false (by omega)
      have hM' : Aside0 (wr.heap[B]? = some (.cells (matR (fun i => Pl.stpN 8 (2 ^ i))) 60 (0, 0))) := ⟨by
        rw [hM.out]
        congr 2
        exact Arr.numA_congr fun i hi => by show ((if i < k then Pl.stpN 8 (2 ^ i) else 0 : Nat) : Int) = _; rw [if_pos (by have := hke.out; omega)]⟩
      clear hM
      obtain ⟨M, hM0⟩ : ∃ M : Int, M = max n 0 := ⟨_, rfl⟩
      have hmx : (if n < 0 then (0 : Int) else n) = M := by rw [hM0]; split <;> omega
      have hmn : (if (1073741824 : Int) < M then (1073741824 : Int) else M) = (N : Int) := by rw [HNN.out, ← hM0]; split <;> omega
      clear hM0
      go_wp2
      go_loopw [0, 11] (fun s i wq => ∃ (x m e : Nat), s = .int .u32 (x : Int) ∧ i = .int .i64 m ∧ RJoin a N x m e ∧ Aside0 (wq.heap[B]? = some (.cells (matR (fun i => Pl.stpN e (2 ^ i))) 60 (0, 0))) ∧ Aside0 (Below w.heap.size w wq)) (fun _ i _ => (intOf i).toNat)
      case atStart => exact ⟨a, N, 8, rfl, rfl, ⟨ha, by have := HNN.out; omega, rfl⟩, hM', hBel⟩
      case round =>
        clear hM' hBel
        obtain ⟨x, m, e, rfl, rfl, hinv, hM, hBel⟩ := hrel
        obtain ⟨hx, hm30, hg⟩ := hinv
        have HG := Aside0.mk hg
        clear hg
        by_cases hm0 : m = 0
        · have HM0 := Aside0.mk hm0
          have d0 : decide ((0 : Int) < (m : Int)) = false := decide_eq_false (by omega)
          have d1 : decide (0 < m) = false := decide_eq_false (by omega)
          have q : bits .xor .u32 (x : Int) (b : Int) = ((x ^^^ b : Nat) : Int) := Arr.x32 hx hb
          obtain ⟨y, hy⟩ : ∃ y, y = x ^^^ b := ⟨_, rfl⟩
          rw [← hy] at q
          have HY := Aside0.mk hy
          clear hy hm0
          go_wp2
          go_ret
          refine ⟨?_, hBel.out⟩
          have e1 := HG.out
          rw [HM0.out, Nat.mul_zero, Pl.stpN] at e1
          have e2 : (min (max n 0) 1073741824).toNat = N := by have := HNN.out; omega
          unfold Pl.join
          rw [HY.out, e1, e2]
          rfl
        · have d0 : decide ((0 : Int) < (m : Int)) = true := decide_eq_true (by omega)
          have d1 : decide (0 < m) = true := decide_eq_true (by omega)
          have hf : ∀ i, i < 32 → Pl.stpN e (2 ^ i) < 4294967296 := fun i hi => Pl.stpN_lt e (Nat.pow_lt_pow_right (m := i) (n := 32) (by decide) hi)
          have HF := Aside0.mk hf
          clear hf
          obtain ⟨j, hj⟩ : ∃ j, j = m / 2 := ⟨_, rfl⟩
          have HJ := Aside0.mk hj
          clear hj
          have etm : Aside0 (((m : Nat) : Int) % 2 = ((m % 2 : Nat) : Int)) := ⟨by omega⟩
          go_upto_if 40 with ((fail))
          go_cut [0, 41, 42, 43] (fun s a1 a2 a3 wc => ∃ y : Nat, s = .int .u32 (y : Int) ∧ y < 4294967296 ∧ Aside0 (Pl.stpN (e * (2 * j)) y = Pl.stpN (8 * N) a) ∧ Aside0 (wc.heap[B]? = some (.cells (matR (fun i => Pl.stpN e (2 ^ i))) 60 (0, 0))) ∧ Aside0 (Below w.heap.size w wc))
          case first =>
            rcases Nat.mod_two_eq_zero_or_one m with h2 | h2
            · have q2 : (((m : Nat) : Int) % 2 == 1) = false := by rw [etm.out, h2]; rfl
              have hgo : Aside0 (Pl.stpN (e * (2 * j)) x = Pl.stpN (8 * N) a) := ⟨by rw [← HG.out, show 2 * j = m from by have := HJ.out; omega]⟩
              clear h2 etm
              go_wp2
              go_meet
              case rel => exact ⟨x, rfl, hx, hgo, hM, hBel⟩
            · have q2 : (((m : Nat) : Int) % 2 == 1) = true := by rw [etm.out, h2]; rfl
              obtain ⟨y, hy⟩ : ∃ y, y = Pl.colTo (fun i => Pl.stpN e (2 ^ i)) x 32 := ⟨_, rfl⟩
              have hye : y = Pl.stpN e x := by rw [hy]; exact Pl.col_stp e x hx _ (fun i _ => rfl)
              have hy32 : y < 4294967296 := by rw [hye]; exact Pl.stpN_lt e hx
              have hgo : Aside0 (Pl.stpN (e * (2 * j)) y = Pl.stpN (8 * N) a) := ⟨by rw [← HG.out, show m = 1 + 2 * j from by have := HJ.out; omega, Nat.mul_add, Nat.mul_one, Pl.stpN_add, hye]⟩
              have HC := fun w1 => waggonerref02_column.calls (fun i => Pl.stpN e (2 ^ i)) x w1 HF.out hx
              rw [← hy] at HC
              have HC' := Aside0.mk HC
              clear HC hy hye h2 etm
              have hBl : Aside0 (B < wr.heap.size) := ⟨(matR_in hM.out).lt⟩
              go_wp2_with (first | ((with_reducible refine gate_dst (N := 41) rfl ?_); refine wpList_load_row rfl 60 (.tmp 7) rfl B rfl 60 _ (0, 0) _ hM.out Try.underlying60 rfl (rmat_info _) ?_) | (go_at_call 40; refine (HC'.out _).mono ?_; rintro e1 w1 ⟨rfl, hb1⟩; have HB1 := Aside0.mk hb1; clear hb1))
              go_meet
              case rel => exact ⟨y, rfl, hy32, hgo, ⟨(HB1.out.block B hBl.out).trans hM.out⟩, ⟨below_then hBel.out hBel.out.size HB1.out⟩⟩
          case rest =>
            obtain ⟨y, rfl, hy, hyg, hM1, hBel1⟩ := hcut
            clear hM hBel HG hx etm
            obtain ⟨D, hD⟩ : ∃ D, D = wc.heap.size := ⟨_, rfl⟩
            have HD := Aside0.mk hD
            clear hD
            have hBl : Aside0 (B < wc.heap.size) := ⟨(matR_in hM1.out).lt⟩
            have hm2 : ((m : Nat) : Int) / 2 = (j : Int) := by have := HJ.out; omega
            go_wp2_with (first | ((with_reducible refine Arr.wpList_store_row rfl 60 (.tmp 12) (.tmp 44) rfl rfl wc.heap.size rfl 60 _ _ rfl (heap_alloc_new wc _) (by kernel_rfl) rfl (by kernel_rfl) ?_)))
            rw [← HD.out]
            go_loopw [13] (fun i wr2 => ∃ (k : Nat), k ≤ 32 ∧ i = .int .i64 k ∧ Aside0 (wr2.heap[D]? = some (.cells (matR (fun i => if i < k then Pl.stpN (e + e) (2 ^ i) else 0)) 60 (0, 0))) ∧ Aside0 (wr2.heap[B]? = some (.cells (matR (fun i => Pl.stpN e (2 ^ i))) 60 (0, 0))) ∧ Aside0 (Below w.heap.size w wr2)) (fun i _ => 32 - (intOf i).toNat)
            case atStart =>
              have hBD : B ≠ D := by rw [HD.out]; have := hBl.out; omega
              refine ⟨0, by decide, rfl, ⟨?_⟩, ⟨(setRow_other _ _ _ _ hBD).trans ((heap_alloc_old _ _ hBl.out).trans hM1.out)⟩, ⟨?_⟩⟩
              · have e0 : matR (fun i => if i < 0 then Pl.stpN (e + e) (2 ^ i) else 0) = #[.int .u32 0, .int .u32 0, .int .u32 0, .int .u32 0, .int .u32 0, .int .u32 0, .int .u32 0, .int .u32 0, .int .u32 0, .int .u32 0, .int .u32 0, .int .u32 0, .int .u32 0, .int .u32 0, .int .u32 0, .int .u32 0, .int .u32 0, .int .u32 0, .int .u32 0, .int .u32 0, .int .u32 0, .int .u32 0, .int .u32 0, .int .u32 0, .int .u32 0, .int .u32 0, .int .u32 0, .int .u32 0, .int .u32 0, .int .u32 0, .int .u32 0, .int .u32 0] := rfl
                rw [e0, HD.out]
                exact setRow_heap _ _ _ _ _ _ (heap_alloc_new _ _)
              · rw [HD.out]; exact below_setRow (hBel1.out.alloc hBel1.out.size _) hBel1.out.size _
            case round =>
              obtain ⟨k, hk, rfl, hE, hM2, hBel2⟩ := hrel
              by_cases hlt : k < 32
              · obtain ⟨v, hv⟩ : ∃ v, v = Pl.stpN e (2 ^ k) := ⟨_, rfl⟩
                have hv32 : v < 4294967296 := by rw [hv]; exact HF.out k hlt
                obtain ⟨z, hz⟩ : ∃ z, z = Pl.colTo (fun i => Pl.stpN e (2 ^ i)) v 32 := ⟨_, rfl⟩
                have hze : z = Pl.stpN (e + e) (2 ^ k) := by rw [hz, Pl.col_stp e v hv32 _ (fun i _ => rfl), hv, Pl.stpN_add]
                have HT := fun w1 => waggonerref02_column.calls (fun i => Pl.stpN e (2 ^ i)) v w1 HF.out hv32
                rw [← hz] at HT
                have HT' := Aside0.mk HT
                have HZ := Aside0.mk hze
                have HV := Aside0.mk hv
                clear HT hz hze hv
                have hBl2 : Aside0 (B < wr.heap.size) := ⟨(matR_in hM2.out).lt⟩
                have hDl2 : Aside0 (D < wr.heap.size) := ⟨(matR_in hE.out).lt⟩
                have hBD : Aside0 (B ≠ D) := ⟨by rw [HD.out]; have := hBl.out; omega⟩
                have hM3 : Aside0 (wr.drew.heap[B]? = some (.cells (matR (fun i => Pl.stpN e (2 ^ i))) 60 (0, 0))) := hM2
                have hE3 : Aside0 (wr.drew.heap[D]? = some (.cells (matR (fun i => if i < k then Pl.stpN (e + e) (2 ^ i) else 0)) 60 (0, 0))) := hE
                have hBel3 : Aside0 (Below w.heap.size w wr.drew) := ⟨below_drew hBel2.out⟩
                have hBl3 : Aside0 (B < wr.drew.heap.size) := hBl2
                have hDl3 : Aside0 (D < wr.drew.heap.size) := hDl2
                clear hM2 hE hBel2 hBl2 hDl2
                go_wp2
                have hcl3 : wr.drew.cell? ⟨B, k, none⟩ = some (.int .u32 (v : Int)) := by rw [HV.out]; exact (matR_in hM3.out).cell k hlt
                refine start_ (n := 8) (S := fun w' => (loadVar 60 ⟨B, 0, none⟩).run Try.prog w' = .ok (.agg (matR (fun i => Pl.stpN e (2 ^ i)))) w' ∧ w'.cell? ⟨B, k, none⟩ = some (.int .u32 (v : Int))) (ds := []) #[false, false, false, false, false, false, false, false] (by kernel_rfl) rfl rfl ⟨(rmat_load _ B _ hM3.out), hcl3⟩ (fun hHeld => ?_)
                generalize wr.drew = wd at hM3 hE3 hBel3 hBl3 hDl3 hcl3 hHeld ⊢
                refine pure_ (i := 0) (N := some 49) (v := ?_) (a' := ?_) #[true, false, false, false, false, false, false, false] rfl rfl (by kernel_rfl) (fun _ _ _ h => h) (Or.inl ⟨by rfl, ?_⟩) ?_ ?_
                rotate_left
                · intro w'
                  go_simp
                  with_reducible rfl
                rotate_left
                · simp only [Act.put, List.setIfInBounds_toArray, List.set_cons_zero, List.set_cons_succ, i64_w, i32_w]
                  rfl
                refine pure_ (i := 2) (N := some 51) (v := ?_) (a' := ?_) #[true, false, true, false, false, false, false, false] rfl rfl (by kernel_rfl) (fun _ _ _ h => h) (Or.inl ⟨by rfl, ?_⟩) ?_ ?_
                rotate_left
                · intro w'
                  go_simp
                  with_reducible rfl
                rotate_left
                · simp only [Act.put, List.setIfInBounds_toArray, List.set_cons_zero, List.set_cons_succ, i64_w, i32_w]
                  rfl
                refine pure_ (i := 3) (N := some 52) (v := ?_) (a' := ?_) #[true, false, true, true, false, false, false, false] rfl rfl (by kernel_rfl) (fun _ _ _ h => h) (Or.inl ⟨by rfl, ?_⟩) ?_ ?_
                rotate_left
                · intro w'
                  go_simp
                  with_reducible rfl
                rotate_left
                · simp only [Act.put, List.setIfInBounds_toArray, List.set_cons_zero, List.set_cons_succ, i64_w, i32_w]
                  rfl
                refine take_ (i := 1) (N := some 50) (v := ?_) (a' := ?_) #[true, true, true, true, false, false, false, false] rfl rfl (by kernel_rfl) (fun _ _ _ h => h) (Or.inl ⟨by rfl, ?_⟩) hHeld ?_ ?_
                rotate_left
                · rintro w' ⟨s0, s1⟩
                  refine (Arr.load_row_run _ (.tmp 7) rfl B rfl _ s0).trans ?_
                  with_reducible rfl
                rotate_left
                · simp only [Act.put, List.setIfInBounds_toArray, List.set_cons_zero, List.set_cons_succ, i64_w, i32_w]
                  rfl
                refine take_ (i := 4) (N := some 53) (v := ?_) (a' := ?_) #[true, true, true, true, true, false, false, false] rfl rfl (by kernel_rfl) (fun _ _ _ h => h) (Or.inl ⟨by rfl, ?_⟩) hHeld ?_ ?_
                rotate_left
                · rintro w' ⟨s0, s1⟩
                  go_simp
                  with_reducible rfl
                rotate_left
                · simp only [Act.put, List.setIfInBounds_toArray, List.set_cons_zero, List.set_cons_succ, i64_w, i32_w]
                  rfl
                refine one_ (i := 5) (N := some 54) #[true, true, true, true, true, true, false, false] rfl rfl (by kernel_rfl) (by decide) (fun K hK => ?_)
                refine goes_ Try.func40 (by kernel_rfl) rfl #[.agg (matR (fun i => Pl.stpN e (2 ^ i))), .int .u32 (v : Int)] (by rfl) rfl rfl (by simp only [List.map_toArray, List.map_cons, List.map_nil]; rfl) ?_
                refine (HT'.out _).mono ?_
                rintro e1 w1 ⟨rfl, hb1⟩
                refine ⟨_, rfl, ?_⟩
                have HB1 := Aside0.mk hb1
                have hM4 : Aside0 (w1.heap[B]? = some (.cells (matR (fun i => Pl.stpN e (2 ^ i))) 60 (0, 0))) := ⟨(hb1.block B hBl3.out).trans hM3.out⟩
                have hcl4 : w1.cell? ⟨B, k, none⟩ = some (.int .u32 (v : Int)) := by rw [HV.out]; exact (matR_in hM4.out).cell k hlt
                have tc := (matR_in ((hb1.block D hDl3.out).trans hE3.out)).cell k hlt
                have tf := (matR_in ((hb1.block D hDl3.out).trans hE3.out)).free k
                clear hb1
                refine hK.out _ _ ⟨(rmat_load _ B _ hM4.out), hcl4⟩ (fun hHeld => ?_)
                clear hK K
                refine norm_ (a' := ?_) ?_ ?_
                rotate_left
                · show Act.put _ (some 54) _ = _
                  simp only [Act.put, List.setIfInBounds_toArray, List.set_cons_zero, List.set_cons_succ, i64_w, i32_w]
                  rfl
                refine pure_ (i := 6) (N := some 55) (v := ?_) (a' := ?_) #[true, true, true, true, true, true, true, false] rfl rfl (by kernel_rfl) (fun _ _ _ h => h) (Or.inl ⟨by rfl, ?_⟩) ?_ ?_
                rotate_left
                · intro w'
                  go_simp
                  with_reducible rfl
                rotate_left
                · simp only [Act.put, List.setIfInBounds_toArray, List.set_cons_zero, List.set_cons_succ, i64_w, i32_w]
                  rfl
                refine one_ (i := 7) (N := none) #[true, true, true, true, true, true, true, true] rfl rfl (by kernel_rfl) (by decide) (fun K hK => ?_)
                refine skip_ (w1 := ?_) (by rfl) rfl ?_ ?_
                rotate_left
                · go_simp
                  rfl
                refine hK.out _ _ ⟨(rmat_load _ B _ ((heap_setCell_other _ _ _ _ hBD.out).trans hM4.out)), (by rw [HV.out]; exact (matR_in (w := w1.setCell ⟨D, k, none⟩ (.int .u32 (z : Int))) ((heap_setCell_other _ _ _ _ hBD.out).trans hM4.out)).cell k hlt)⟩ (fun hHeld => ?_)
                clear hK K
                refine done_ (by kernel_rfl) ?_
                go_wp2
                go_roundw
                case rel =>
                  refine ⟨k + 1, by omega, by go_num, ⟨?_⟩, ⟨(heap_setCell_other _ _ _ _ hBD.out).trans hM4.out⟩, ⟨(below_then hBel3.out hBel3.out.size HB1.out).setCell (by rw [HD.out]; exact hBel1.out.size) _⟩⟩
                  refine ((matR_in ((HB1.out.block D hDl3.out).trans hE3.out)).set k hlt (z : Int)).congr fun i hi => ?_
                  show (if i = k then (z : Int) else ((if i < k then Pl.stpN (e + e) (2 ^ i) else 0 : Nat) : Int)) = ((if i < k + 1 then Pl.stpN (e + e) (2 ^ i) else 0 : Nat) : Int)
                  by_cases e2 : i = k
                  · subst e2; rw [if_pos rfl, if_pos (by omega), HZ.out]
                  · rw [if_neg e2]
                    by_cases e3 : i < k
                    · rw [if_pos e3, if_pos (by omega)]
                    · rw [if_neg e3, if_neg (by omega)]
                case measure => simp [intOf]; omega
              · have hE' : Aside0 (wr.heap[D]? = some (.cells (matR (fun i => Pl.stpN (e + e) (2 ^ i))) 60 (0, 0))) := ⟨by
                  refine (matR_in hE.out).congr fun i hi => ?_
                  show ((if i < k then Pl.stpN (e + e) (2 ^ i) else 0 : Nat) : Int) = _
                  rw [if_pos (by omega)]⟩
                clear hE
                go_wp2_with (first | ((with_reducible refine gate_dst (N := 56) rfl ?_); refine wpList_load_row rfl 60 (.tmp 12) rfl D rfl 60 _ (0, 0) _ hE'.out Try.underlying60 rfl (rmat_info _) ?_) | (refine Arr.wpList_store_row rfl 60 (.tmp 7) (.tmp 56) rfl rfl B rfl 60 _ _ rfl hM2.out (rmat_info _) (rmat_size _ _) (Arr.numA_one _ _ _) ?_))
                go_roundw
                case rel =>
                  refine ⟨y, j, e + e, rfl, by go_num, ⟨hy, by have := HJ.out; omega, ?_⟩, ⟨?_⟩, ⟨?_⟩⟩
                  · rw [← hyg.out]; congr 1; rw [← Nat.mul_assoc, Nat.mul_comm e 2]; congr 1; omega
                  · exact setRow_heap _ _ _ _ _ _ hM2.out
                  · exact below_setRow hBel2.out (by rw [HBN.out]; omega) _
                case measure => simp [intOf]; have := HJ.out; omega
def waggonerref02_Join.f (a0 : Int) (a1 : Int) (a2 : Int) : Option Int := if 0 ≤ a0 ∧ a0 < 4294967296 ∧ 0 ≤ a1 ∧ a1 < 4294967296 then some ((Pl.join a0.toNat a1.toNat a2 : Nat) : Int) else none
theorem waggonerref02_Join.calls (a0 : Int) (a1 : Int) (a2 : Int) (r : Int) (w : World) (h : waggonerref02_Join.f a0 a1 a2 = some r) :
    Calls Try.prog 23 #[.int .u32 a0, .int .u32 a1, .int .i64 a2] w fun e w' => e = .returned (.int .u32 r) ∧ Below w.heap.size w w' := by
  unfold waggonerref02_Join.f at h
  split at h
  case isFalse => cases h
  rename_i hh
  obtain ⟨h0, h1, h2, h3⟩ := hh
  obtain rfl := Option.some.inj h
  obtain ⟨a, rfl⟩ := Int.eq_ofNat_of_zero_le h0
  obtain ⟨b, rfl⟩ := Int.eq_ofNat_of_zero_le h2
  exact waggonerref02_Join.core a b a2 w (by omega) (by omega)
theorem waggonerref02_Join.tells (a b : Nat) (n : Int) (ha : a < 4294967296) (hb : b < 4294967296) : waggonerref02_Join.f (a : Int) (b : Int) n = some ((Pl.join a b n : Nat) : Int) := by
  unfold waggonerref02_Join.f
  rw [if_pos ⟨by omega, by omega, by omega, by omega⟩, Int.toNat_natCast, Int.toNat_natCast]

end Go.Proofs.Ytiaoehjldbnpkaa.PT
