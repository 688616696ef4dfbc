/- Words and walks that this claim names, of those that the kit's print and programs of this workplace have printed. -/
import Derived.Test.YtohkmmbmfhficaaZTPTx11
import Derived.Test.YtohkmmbmfhficaaZTPTx45
namespace Go.Proofs.Ytohkmmbmfhficaa.PT
open Go.RowKit Go.Proofs.YtohkmmbmfhficaaW.PrintWords Go.Proofs.YtohkmmbmfhficaaW.PrintLast Go.Proofs.YtohkmmbmfhficaaW.PrintMore
attribute [local go_sem] max2_int min2_int max_two min_two max_three min_three max_four min_four
set_option linter.unusedVariables false
set_option linter.unusedSimpArgs false
def waggonerlaw16_awake.f : Option Bool := some true
theorem waggonerlaw16_awake.tells : waggonerlaw16_awake_p.f = some true := by kernel_rfl
theorem waggonerlaw16_awake.calls (r : Bool) (w : World) (h : waggonerlaw16_awake.f = some r) :
  Calls Try.prog 18 #[] w fun e w' => e = .returned (.bool r) ∧ Below w.heap.size w w' := by
 unfold waggonerlaw16_awake.f at h
 obtain rfl := Option.some.inj h
 exact waggonerlaw16_awake_p.calls true rfl w waggonerlaw16_awake.tells
def waggonerref15_Is_p.l0 : Nat → List Int → Int → Option (Bool)
 | 0, _, _ => none
 | k + 1, x0, x3 => if x3 < (x0.length : Int) then (if 0 ≤ x3 then (if (rd x0 x3) = 0 then (waggonerref15_Is_p.l0 k x0 (wrap64 (x3 + 1))) else (some false)) else (none)) else (some true)
def waggonerref15_Is_p.f (k : Nat) (l0 : List Int) : Option (Bool) := waggonerref15_Is_p.l0 k l0 0
set_option maxHeartbeats 8000000 in
set_option maxRecDepth 100000 in
theorem waggonerref15_Is_p.calls (k : Nat) (A0 : Option Addr) (c0 : Nat) (l0 : List Int) (r : Bool) (w : World) (hr0 : Kd.C (Kd.int .u8) w A0 l0.length l0) (hc0 : l0.length ≤ c0) (h : waggonerref15_Is_p.f k l0 = some r) :
  Calls Try.prog 59 #[.slice A0 l0.length c0] w fun e w' => e = .returned (.bool r) ∧ Drawn0 w w' := by
 have HR0 := Aside0.mk hr0
 have HC0 := Aside0.mk hc0
 clear hr0 hc0
 have H : (waggonerref15_Is_p.l0 k l0 0) = some r := h
 clear h
 have H' := Aside0.mk H
 clear H
 go_enter Try.func59, Try.ntmps59
 go_wp2
 go_loopg [3] k (fun kq v3 w' => ∃ (x3_1 : Int), v3 = .int .i64 x3_1 ∧ Aside0 (waggonerref15_Is_p.l0 kq l0 x3_1 = some r) ∧ Aside0 (kq ≤ k) ∧ Drawn0 w w')
 case atStart => exact ⟨(0), (by first | rfl | (simp; done) | (simp [*]; done)), H', ⟨Nat.le_refl _⟩, by repeat (first | exact Drawn0.refl _ | apply Drawn0.step)⟩
 case round =>
  clear H'
  obtain ⟨x3_1, rfl, HA, HK1, ⟨m1, rfl⟩⟩ := hrel
  cases gk with
  | zero => exact absurd HA.out (by simp [waggonerref15_Is_p.l0])
  | succ k1 =>
   have H := HA.out
   clear HA
   simp only [waggonerref15_Is_p.l0] at H
   by_cases c2 : x3_1 < (l0.length : Int)
   ·rw [if_pos c2] at H
    have c2b0 : decide (x3_1 < (l0.length : Int)) = true := decide_eq_true c2
    clear c2
    by_cases c3 : 0 ≤ x3_1
    ·rw [if_pos c3] at H
     have c3b0 : decide (0 ≤ x3_1) = true := decide_eq_true c3
     clear c3
     by_cases c4 : (rd l0 x3_1) = 0
     ·rw [if_pos c4] at H
      have c4b0 : ((rd l0 x3_1) == 0) = true := beq_iff_eq.mpr c4
      have c4b1 : ((rd l0 x3_1) != 0) = false := bne_eq_false_iff_eq.mpr c4
      clear c4
      have H' := Aside0.mk H
      clear H
      have p266 : 0 ≤ (x3_1 : Int) := of_decide_eq_true (by first | (with_reducible assumption) | assumption)
      have q266 : x3_1 < (l0.length : Int) := of_decide_eq_true (by first | (with_reducible assumption) | assumption)
      obtain ⟨ad266, e266, hx266_0⟩ := Kd.at_int HR0.out x3_1 p266 q266
      cases e266
      replace p266 := eq_true p266
      replace q266 := eq_true q266
      go_wp2
      go_roundg k1
      case measure => have := HK1.out; omega
      case rel => exact ⟨(wrap64 (x3_1 + 1)), (by first | rfl | (simp; done) | (simp [*]; done)), H', ⟨by have := HK1.out; omega⟩, by repeat (first | exact Drawn0.refl _ | apply Drawn0.step)⟩
     ·rw [if_neg c4] at H
      have c4b0 : ((rd l0 x3_1) == 0) = false := beq_eq_false_iff_ne.mpr c4
      have c4b1 : ((rd l0 x3_1) != 0) = true := bne_iff_ne.mpr c4
      obtain rfl := Option.some.inj H
      have p266 : 0 ≤ (x3_1 : Int) := of_decide_eq_true (by first | (with_reducible assumption) | assumption)
      have q266 : x3_1 < (l0.length : Int) := of_decide_eq_true (by first | (with_reducible assumption) | assumption)
      obtain ⟨ad266, e266, hx266_0⟩ := Kd.at_int HR0.out x3_1 p266 q266
      cases e266
      replace p266 := eq_true p266
      replace q266 := eq_true q266
      go_wp2
      go_ret
      exact ⟨by first | rfl | (simp; done) | (simp [*]; done), by repeat (first | exact Drawn0.refl _ | apply Drawn0.step)⟩
    ·rw [if_neg c3] at H
     exact absurd H (by simp)
   ·rw [if_neg c2] at H
    have c2b0 : decide (x3_1 < (l0.length : Int)) = false := decide_eq_false c2
    clear c2
    obtain rfl := Option.some.inj H
    go_wp2
    go_ret
    exact ⟨by first | rfl | (simp; done) | (simp [*]; done), by repeat (first | exact Drawn0.refl _ | apply Drawn0.step)⟩
def waggonerref15_Is.f (l0 : List Int) : Option Bool := if l0.length < 1073741824 then some (Pl.zeroB l0) else none
theorem waggonerref15_Is.tells {l0 : List Int} (h : l0.length < 1073741824) : waggonerref15_Is.f l0 = some (Pl.zeroB l0) := if_pos h
theorem waggonerref15_Is.loop {l : List Int} (h : l.length < 1073741824) : ∀ (d k i : Nat), l.length - i = d → i ≤ l.length → d < k → waggonerref15_Is_p.l0 k l (i : Int) = some (Pl.zeroB (l.drop i))
 | 0, k, i, hd, hi, hk => by
  obtain ⟨k, rfl⟩ : ∃ m, k = m + 1 := ⟨k - 1, by omega⟩
  rw [waggonerref15_Is_p.l0, if_neg (by omega), List.drop_of_length_le (by omega)]
  rfl
 | d + 1, k, i, hd, hi, hk => by
  obtain ⟨k, rfl⟩ : ∃ m, k = m + 1 := ⟨k - 1, by omega⟩
  have hi0 : i < l.length := by omega
  rw [waggonerref15_Is_p.l0, if_pos (by omega), if_pos (by omega), show rd l (i : Int) = l[i] by simp [rd, hi0], List.drop_eq_getElem_cons hi0, Pl.zeroB, List.all_cons]
  by_cases h0 : l[i] = 0
  ·rw [if_pos h0, show wrap64 ((i : Int) + 1) = ((i + 1 : Nat) : Int) by unfold wrap64; omega, waggonerref15_Is.loop h d k (i + 1) (by omega) (by omega) (by omega), decide_eq_true h0, Bool.true_and]
   rfl
  ·rw [if_neg h0, decide_eq_false h0, Bool.false_and]
theorem waggonerref15_Is.closes {l0 : List Int} {r : Bool} (h : waggonerref15_Is.f l0 = some r) : waggonerref15_Is_p.f (l0.length + 1) l0 = some r := by
 unfold waggonerref15_Is.f at h
 split at h
 case isFalse => cases h
 rename_i hh
 rw [← h]
 unfold waggonerref15_Is_p.f
 have := waggonerref15_Is.loop hh l0.length (l0.length + 1) 0 (by omega) (by omega) (by omega)
 rwa [List.drop_zero] at this
theorem waggonerref15_Is.calls (A0 : Option Addr) (c0 : Nat) (l0 : List Int) (r : Bool) (w : World) (hr0 : Kd.C (Kd.int .u8) w A0 l0.length l0) (hc0 : l0.length ≤ c0) (h : waggonerref15_Is.f l0 = some r) :
  Calls Try.prog 59 #[.slice A0 l0.length c0] w fun e w' => e = .returned (.bool r) ∧ Drawn0 w w' :=
 waggonerref15_Is_p.calls (l0.length + 1) A0 c0 l0 r w hr0 hc0 (waggonerref15_Is.closes h)
def waggonerref16_zeros_p.l0 : Nat → List Int → Int → Option (Bool)
 | 0, _, _ => none
 | k + 1, x0, x3 => if (wrap64 (x3 + 32)) ≤ (x0.length : Int) then (if 0 ≤ x3 then (if x3 ≤ (wrap64 (x3 + 32)) then ((waggonerref15_Is.f ((x0.take ((wrap64 (x3 + 32)) : Int).toNat).drop (x3 : Int).toNat)).bind fun t268 => (if t268 = true then (some true) else (waggonerref16_zeros_p.l0 k x0 (wrap64 (x3 + 32))))) else (none)) else (none)) else (some false)
def waggonerref16_zeros_p.f (k : Nat) (l0 : List Int) : Option (Bool) := waggonerref16_zeros_p.l0 k l0 0
set_option maxHeartbeats 8000000 in
set_option maxRecDepth 100000 in
theorem waggonerref16_zeros_p.calls (k : Nat) (A0 : Option Addr) (c0 : Nat) (l0 : List Int) (r : Bool) (w : World) (hr0 : Kd.C (Kd.int .u8) w A0 l0.length l0) (hc0 : l0.length ≤ c0) (h : waggonerref16_zeros_p.f k l0 = some r) :
  Calls Try.prog 50 #[.slice A0 l0.length c0] w fun e w' => e = .returned (.bool r) ∧ Drawn0 w w' := by
 have HR0 := Aside0.mk hr0
 have HC0 := Aside0.mk hc0
 clear hr0 hc0
 have H : (waggonerref16_zeros_p.l0 k l0 0) = some r := h
 clear h
 have H' := Aside0.mk H
 clear H
 go_enter Try.func50, Try.ntmps50
 go_wp2
 go_loopg [3] k (fun kq v3 w' => ∃ (x3_1 : Int), v3 = .int .i64 x3_1 ∧ Aside0 (waggonerref16_zeros_p.l0 kq l0 x3_1 = some r) ∧ Aside0 (kq ≤ k) ∧ Drawn0 w w')
 case atStart => exact ⟨(0), (by first | rfl | (simp; done) | (simp [*]; done)), H', ⟨Nat.le_refl _⟩, by repeat (first | exact Drawn0.refl _ | apply Drawn0.step)⟩
 case round =>
  clear H'
  obtain ⟨x3_1, rfl, HA, HK1, ⟨m1, rfl⟩⟩ := hrel
  cases gk with
  | zero => exact absurd HA.out (by simp [waggonerref16_zeros_p.l0])
  | succ k1 =>
   have H := HA.out
   clear HA
   simp only [waggonerref16_zeros_p.l0] at H
   by_cases c2 : (wrap64 (x3_1 + 32)) ≤ (l0.length : Int)
   ·rw [if_pos c2] at H
    have c2b0 : decide ((wrap64 (x3_1 + 32)) ≤ (l0.length : Int)) = true := decide_eq_true c2
    clear c2
    by_cases c3 : 0 ≤ x3_1
    ·rw [if_pos c3] at H
     have c3b0 := eq_true c3
     have c3b1 : decide (0 ≤ x3_1) = true := decide_eq_true c3
     clear c3
     by_cases c4 : x3_1 ≤ (wrap64 (x3_1 + 32))
     ·rw [if_pos c4] at H
      have c4b0 := eq_true c4
      have c4b1 : decide (x3_1 ≤ (wrap64 (x3_1 + 32))) = true := decide_eq_true c4
      have c5b0 := eq_true (of_decide_eq_true (by first | (with_reducible assumption) | assumption) : (wrap64 (x3_1 + 32)) ≤ (l0.length : Int))
      replace H := Option.bind_eq_some_iff.mp H
      obtain ⟨t268, A60, H⟩ := H
      replace H : (if t268 = true then (some true) else (waggonerref16_zeros_p.l0 k1 l0 (wrap64 (x3_1 + 32)))) = some r := H
      have A6 := Aside0.mk A60
      clear A60
      by_cases c7 : t268 = true
      ·subst c7
       have H1 : (some true) = some r := by rw [if_pos rfl] at H <;> exact H
       clear H
       have H := H1
       clear H1
       obtain rfl := Option.some.inj H
       obtain ⟨i08, hi08, _, hsz8, _⟩ := info_parts info5
       obtain ⟨A8, hcut8, hA8, hC8⟩ := print_mid_of (P := Try.prog) (Value.int .u8) 0 27 5 .i64 .i64 Try.underlying27 hi08 hsz8 A0 c0 l0 x3_1 (wrap64 (x3_1 + 32)) (of_decide_eq_true (by first | (with_reducible assumption) | assumption)) (by first | omega | exact of_decide_eq_true (by first | (with_reducible assumption) | assumption)) (of_decide_eq_true (by first | (with_reducible assumption) | assumption)) HC0.out
       have HR267 := Aside0.mk (Kd.C_of_reads (h1 := fun _ => rfl) (hA8 _ (Kd.reads_of_C HR0.out)))
       have HC267 := Aside0.mk hC8
       clear hA8 hC8 hi08 hsz8
       go_wp2_with (first | ((with_reducible refine gate_callee (f := 59) rfl ?_); refine goesL_ (some 17) rfl rfl Try.func59 (by kernel_rfl) rfl #[.slice A8 ((l0.take ((wrap64 (x3_1 + 32)) : Int).toNat).drop (x3_1 : Int).toNat).length (c0 - x3_1.toNat)] rfl (by (try simp only [List.map_toArray, List.map_cons, List.map_nil]); first | done | (rw [show ((l0.take ((wrap64 (x3_1 + 32)) : Int).toNat).drop (x3_1 : Int).toNat).length = ((wrap64 (x3_1 + 32)).toNat - x3_1.toNat) from (by rw [List.length_drop, List.length_take]; have h_ : ((wrap64 (x3_1 + 32)) : Int) ≤ (l0.length : Int) := of_decide_eq_true (by first | (with_reducible assumption) | assumption); omega)] <;> rfl) | rfl | (simp only [List.length_drop, List.length_take]; rfl)) ?_; (with_reducible refine (waggonerref15_Is.calls _ _ ((l0.take ((wrap64 (x3_1 + 32)) : Int).toNat).drop (x3_1 : Int).toNat) true _ ?side1 ?side2 A6.out).mono ?_); (case side1 => repeat (first | exact HR267.out | (with_reducible refine Kd.C_alloc ?_ _) | (with_reducible refine Kd.C_drewN ?_ _) | (with_reducible refine Kd.C_drew ?_))); (case side2 => exact HC267.out); rintro e w' ⟨rfl, ⟨nd, rfl⟩⟩; refine ⟨_, rfl, ?_⟩))
       go_ret
       exact ⟨by first | rfl | (simp; done) | (simp [*]; done), by repeat (first | exact Drawn0.refl _ | apply Drawn0.step)⟩
      ·replace c7 := Bool.eq_false_iff.mpr c7
       subst c7
       have H1 : (waggonerref16_zeros_p.l0 k1 l0 (wrap64 (x3_1 + 32))) = some r := by rw [if_neg (show ¬ (false = true) by decide)] at H <;> exact H
       clear H
       have H := H1
       clear H1
       have H' := Aside0.mk H
       clear H
       obtain ⟨i09, hi09, _, hsz9, _⟩ := info_parts info5
       obtain ⟨A9, hcut9, hA9, hC9⟩ := print_mid_of (P := Try.prog) (Value.int .u8) 0 27 5 .i64 .i64 Try.underlying27 hi09 hsz9 A0 c0 l0 x3_1 (wrap64 (x3_1 + 32)) (of_decide_eq_true (by first | (with_reducible assumption) | assumption)) (by first | omega | exact of_decide_eq_true (by first | (with_reducible assumption) | assumption)) (of_decide_eq_true (by first | (with_reducible assumption) | assumption)) HC0.out
       have HR267 := Aside0.mk (Kd.C_of_reads (h1 := fun _ => rfl) (hA9 _ (Kd.reads_of_C HR0.out)))
       have HC267 := Aside0.mk hC9
       clear hA9 hC9 hi09 hsz9
       go_wp2_with (first | ((with_reducible refine gate_callee (f := 59) rfl ?_); refine goesL_ (some 17) rfl rfl Try.func59 (by kernel_rfl) rfl #[.slice A9 ((l0.take ((wrap64 (x3_1 + 32)) : Int).toNat).drop (x3_1 : Int).toNat).length (c0 - x3_1.toNat)] rfl (by (try simp only [List.map_toArray, List.map_cons, List.map_nil]); first | done | (rw [show ((l0.take ((wrap64 (x3_1 + 32)) : Int).toNat).drop (x3_1 : Int).toNat).length = ((wrap64 (x3_1 + 32)).toNat - x3_1.toNat) from (by rw [List.length_drop, List.length_take]; have h_ : ((wrap64 (x3_1 + 32)) : Int) ≤ (l0.length : Int) := of_decide_eq_true (by first | (with_reducible assumption) | assumption); omega)] <;> rfl) | rfl | (simp only [List.length_drop, List.length_take]; rfl)) ?_; (with_reducible refine (waggonerref15_Is.calls _ _ ((l0.take ((wrap64 (x3_1 + 32)) : Int).toNat).drop (x3_1 : Int).toNat) false _ ?side1 ?side2 A6.out).mono ?_); (case side1 => repeat (first | exact HR267.out | (with_reducible refine Kd.C_alloc ?_ _) | (with_reducible refine Kd.C_drewN ?_ _) | (with_reducible refine Kd.C_drew ?_))); (case side2 => exact HC267.out); rintro e w' ⟨rfl, ⟨nd, rfl⟩⟩; refine ⟨_, rfl, ?_⟩))
       go_roundg k1
       case measure => have := HK1.out; omega
       case rel => exact ⟨(wrap64 (x3_1 + 32)), (by first | rfl | (simp; done) | (simp [*]; done)), H', ⟨by have := HK1.out; omega⟩, by repeat (first | exact Drawn0.refl _ | apply Drawn0.step)⟩
     ·rw [if_neg c4] at H
      exact absurd H (by simp)
    ·rw [if_neg c3] at H
     exact absurd H (by simp)
   ·rw [if_neg c2] at H
    have c2b0 : decide ((wrap64 (x3_1 + 32)) ≤ (l0.length : Int)) = false := decide_eq_false c2
    clear c2
    obtain rfl := Option.some.inj H
    go_wp2
    go_ret
    exact ⟨by first | rfl | (simp; done) | (simp [*]; done), by repeat (first | exact Drawn0.refl _ | apply Drawn0.step)⟩
def waggonerref16_zeros.f (l0 : List Int) : Option Bool := if l0.length < 1073741824 then some (Pl.zerS l0) else none
theorem waggonerref16_zeros.tells {l0 : List Int} (h : l0.length < 1073741824) : waggonerref16_zeros.f l0 = some (Pl.zerS l0) := if_pos h
theorem waggonerref16_zeros.loop {l : List Int} (h : l.length < 1073741824) : ∀ (d k i : Nat), l.length - i ≤ d → i ≤ l.length → d < k → waggonerref16_zeros_p.l0 k l (i : Int) = some (Pl.zerS (l.drop i))
 | d, k, i, hd, hi, hk => by
  obtain ⟨k, rfl⟩ : ∃ m, k = m + 1 := ⟨k - 1, by omega⟩
  have hw : wrap64 ((i : Int) + 32) = ((i + 32 : Nat) : Int) := by unfold wrap64; omega
  rw [waggonerref16_zeros_p.l0, hw]
  have hl : (l.drop i).length = l.length - i := List.length_drop
  by_cases h32 : (((i + 32 : Nat) : Int)) ≤ (l.length : Int)
  ·rw [if_pos h32, if_pos (by omega), if_pos (by omega), Int.toNat_natCast, Int.toNat_natCast, show (l.take (i + 32)).drop i = (l.drop i).take 32 by rw [List.drop_take, Nat.add_sub_cancel_left], waggonerref15_Is.tells (by rw [List.length_take]; omega), Option.bind_some, Pl.zerS_long (by omega), List.drop_drop]
   by_cases hz : Pl.zeroB ((l.drop i).take 32) = true
   ·rw [if_pos hz, hz, Bool.true_or]
   ·obtain ⟨d', rfl⟩ : ∃ m, d = m + 32 := ⟨d - 32, by omega⟩
    rw [if_neg hz, Bool.eq_false_iff.2 hz, Bool.false_or, waggonerref16_zeros.loop h d' k (i + 32) (by omega) (by omega) (by omega)]
  ·rw [if_neg h32, Pl.zerS_short (by omega)]
 termination_by d => d
theorem waggonerref16_zeros.closes {l0 : List Int} {r : Bool} (h : waggonerref16_zeros.f l0 = some r) : waggonerref16_zeros_p.f (l0.length + 1) l0 = some r := by
 unfold waggonerref16_zeros.f at h
 split at h
 case isFalse => cases h
 rename_i hh
 rw [← h]
 unfold waggonerref16_zeros_p.f
 have := waggonerref16_zeros.loop hh l0.length (l0.length + 1) 0 (by omega) (by omega) (by omega)
 rwa [List.drop_zero] at this
theorem waggonerref16_zeros.calls (A0 : Option Addr) (c0 : Nat) (l0 : List Int) (r : Bool) (w : World) (hr0 : Kd.C (Kd.int .u8) w A0 l0.length l0) (hc0 : l0.length ≤ c0) (h : waggonerref16_zeros.f l0 = some r) :
  Calls Try.prog 50 #[.slice A0 l0.length c0] w fun e w' => e = .returned (.bool r) ∧ Drawn0 w w' :=
 waggonerref16_zeros_p.calls (l0.length + 1) A0 c0 l0 r w hr0 hc0 (waggonerref16_zeros.closes h)
end Go.Proofs.Ytohkmmbmfhficaa.PT
