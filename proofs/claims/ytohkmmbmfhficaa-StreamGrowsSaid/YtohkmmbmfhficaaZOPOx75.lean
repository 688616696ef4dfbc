/- Words and walks that this claim names, of those that the kit's print and programs of this workplace have printed. -/
import Derived.Test.YtohkmmbmfhficaaZOCz
import Derived.Test.YtohkmmbmfhficaaZOPOx5
import Derived.Test.YtohkmmbmfhficaaZOPOx55
import Derived.Test.YtohkmmbmfhficaaZOPOx62
import Derived.Test.YtohkmmbmfhficaaZOPOx73
namespace Go.Proofs.Ytohkmmbmfhficaa.PO
open Go.Proofs.Ytohkmmbmfhficaa Go.RowKit Go.Proofs.YtohkmmbmfhficaaW.PrintWords Go.Proofs.YtohkmmbmfhficaaW.PrintLast Go.Proofs.YtohkmmbmfhficaaW.PrintMore
attribute [local go_sem] max2_int min2_int max_two min_two max_three min_three max_four min_four
set_option linter.unusedVariables false
set_option linter.unusedSimpArgs false
def waggonerlaw17_StreamGrows.j0 : Nat → Int → Int → Bool → List Int → Bool → Int → Int → Int → List (S36) → Option (Bool)
 | 0, _, _, _, _, _, _, _, _, _ => none
 | k + 1, x1, x2, x7, x8, x29, x356000, x356001, x356002, x356003 => if x29 = true then (some x7) else (if (x8.length : Int) < 29 then (some false) else (if (x8.length : Int) = 0 then (none) else (if 0 ≤ (mn (Int.tmod (wrap64 (x1)) (x8.length : Int)) (Int.tmod (wrap64 (x2)) (x8.length : Int))) then (if (mn (Int.tmod (wrap64 (x1)) (x8.length : Int)) (Int.tmod (wrap64 (x2)) (x8.length : Int))) ≤ (x8.length : Int) then ((stream_Begin.f (x8.take ((mn (Int.tmod (wrap64 (x1)) (x8.length : Int)) (Int.tmod (wrap64 (x2)) (x8.length : Int))) : Int).toNat)).bind fun bt366 => (if 0 ≤ (mx (Int.tmod (wrap64 (x1)) (x8.length : Int)) (Int.tmod (wrap64 (x2)) (x8.length : Int))) then (if (mx (Int.tmod (wrap64 (x1)) (x8.length : Int)) (Int.tmod (wrap64 (x2)) (x8.length : Int))) ≤ (x8.length : Int) then ((stream_Begin.f (x8.take ((mx (Int.tmod (wrap64 (x1)) (x8.length : Int)) (Int.tmod (wrap64 (x2)) (x8.length : Int))) : Int).toNat)).bind fun bt378 => (if bt366.1 = 0 then (if bt366.2.2.1 = 0 then (if x7 = true then (if bt366.2.2.2.2 = 161 then (if bt378.2.2.2.2 = 161 then (if (bt366.2.2.2.1.length : Int) ≤ (bt378.2.2.2.1.length : Int) then (if (bt378.2.2.2.1.length : Int) ≤ (x356003.length : Int) then (if bt378.1 = 0 then (some true) else (if bt378.1 = x356000 then (some (bt378.2.2.1 == x356002)) else (some false))) else (some false)) else (some false)) else (some false)) else (some false)) else (some false)) else (if bt366.1 = bt378.1 then (if bt366.2.1 = bt378.2.1 then (if x7 = true then (if bt366.2.2.2.2 = 161 then (if bt378.2.2.2.2 = 161 then (if bt366.2.2.1 = bt378.2.2.1 then (if (bt366.2.2.2.1.length : Int) ≤ (bt378.2.2.2.1.length : Int) then (if (bt378.2.2.2.1.length : Int) ≤ (x356003.length : Int) then (if bt378.1 = 0 then (some true) else (if bt378.1 = x356000 then (some (bt378.2.2.1 == x356002)) else (some false))) else (some false)) else (some false)) else (some false)) else (some false)) else (some false)) else (some false)) else (if x7 = true then (if bt366.2.2.2.2 = 161 then (if bt378.2.2.2.2 = 161 then (some false) else (some false)) else (some false)) else (some false))) else (if x7 = true then (if bt366.2.2.2.2 = 161 then (if bt378.2.2.2.2 = 161 then (some false) else (some false)) else (some false)) else (some false)))) else (if bt366.1 = bt378.1 then (if bt366.2.1 = bt378.2.1 then (if x7 = true then (if bt366.2.2.2.2 = 161 then (if bt378.2.2.2.2 = 161 then (if bt366.2.2.1 = bt378.2.2.1 then (if (bt366.2.2.2.1.length : Int) ≤ (bt378.2.2.2.1.length : Int) then (if (bt378.2.2.2.1.length : Int) ≤ (x356003.length : Int) then (if bt378.1 = 0 then (some true) else (if bt378.1 = x356000 then (some (bt378.2.2.1 == x356002)) else (some false))) else (some false)) else (some false)) else (some false)) else (some false)) else (some false)) else (some false)) else (if x7 = true then (if bt366.2.2.2.2 = 161 then (if bt378.2.2.2.2 = 161 then (some false) else (some false)) else (some false)) else (some false))) else (if x7 = true then (if bt366.2.2.2.2 = 161 then (if bt378.2.2.2.2 = 161 then (some false) else (some false)) else (some false)) else (some false))))) else (none)) else (none))) else (none)) else (none))))
def waggonerlaw17_StreamGrows.f (k : Nat) (a0_0 : Int) (a0_1 : Int) (a0_2 : Int) (l0_3 : List (S36)) (a1 : Int) (a2 : Int) : Option (Bool) := (waggonerlaw17_awake.f).bind fun t356 => ((stream_Write.f a0_0 a0_1 a0_2 l0_3).bind fun bt357 => (if bt357.2 = 0 then ((waggonerlaw17_few.f a0_0 a0_1 a0_2 l0_3).bind fun t361 => (waggonerlaw17_StreamGrows.j0 k a1 a2 t356 bt357.1 (!t361) a0_0 a0_1 a0_2 l0_3)) else (waggonerlaw17_StreamGrows.j0 k a1 a2 t356 bt357.1 true a0_0 a0_1 a0_2 l0_3)))
set_option maxHeartbeats 8000000 in
set_option maxRecDepth 100000 in
theorem waggonerlaw17_StreamGrows.calls (k : Nat) (a0_0 : Int) (a0_1 : Int) (a0_2 : Int) (A0_3 : Option Addr) (c0_3 : Nat) (l0_3 : List (S36)) (a1 : Int) (a2 : Int) (r : Bool) (hT : r = true) (w : World) (hr0_3 : Kd.C k36 w A0_3 l0_3.length l0_3) (hc0_3 : l0_3.length ≤ c0_3) (h : waggonerlaw17_StreamGrows.f k a0_0 a0_1 a0_2 l0_3 a1 a2 = some r) :
  Calls Try.prog 3 #[.agg #[.int .i64 a0_0, .int .i64 a0_1, .int .i64 a0_2, .slice A0_3 l0_3.length c0_3], .int .u16 a1, .int .u16 a2] w fun e w' => e = .returned (.bool r) ∧ Below w.heap.size w w' := by
 subst hT
 have hu24 := Try.underlying24
 have HR0_3 := Aside0.mk hr0_3
 have HC0_3 := Aside0.mk hc0_3
 clear hr0_3 hc0_3
 have HB := Aside0.mk (Below.refl w.heap.size w)
 have H : ((waggonerlaw17_awake.f).bind fun t356 => ((stream_Write.f a0_0 a0_1 a0_2 l0_3).bind fun bt357 => (if bt357.2 = 0 then ((waggonerlaw17_few.f a0_0 a0_1 a0_2 l0_3).bind fun t361 => (waggonerlaw17_StreamGrows.j0 k a1 a2 t356 bt357.1 (!t361) a0_0 a0_1 a0_2 l0_3)) else (waggonerlaw17_StreamGrows.j0 k a1 a2 t356 bt357.1 true a0_0 a0_1 a0_2 l0_3)))) = some true := h
 clear h
 replace H := Option.bind_eq_some_iff.mp H
 obtain ⟨t356, A40, H⟩ := H
 (try dsimp only at H)
 have A4 := Aside0.mk A40
 clear A40
 replace H := Option.bind_eq_some_iff.mp H
 obtain ⟨⟨t357, t360⟩, A50, H⟩ := H
 (try dsimp only at H)
 have A5 := Aside0.mk A50
 clear A50
 have HC6 := Aside0.mk H
 clear H
 go_enter Try.func3, Try.ntmps3
 go_upto_region 3 with (first | ((with_reducible refine gate_dst (N := 3) rfl ?_); (try (refine gate_guard (by rfl) ?_; dsimp only)); refine Cz.bx (N := 3) #[.int .i64 a0_0, .int .i64 a0_1, .int .i64 a0_2, .slice A0_3 l0_3.length c0_3] 24 ?_; intro gb355 hg w7 hbox hb; have BK355 := Aside0.mk (hbox); have GW355 := Aside0.mk ((Cz.gs hg : w.heap.size ≤ gb355)); have GE355 := GW355; replace HB := Cz.bs (w := w) hb; clear hb hbox hg) | ((with_reducible refine gate_callee (f := 14) rfl ?_); refine Cz.gL (N := (some 17)) Try.func14 #[] ?_; (with_reducible refine (waggonerlaw17_awake.calls  t356 _ A4.out).mono ?_); rintro e w8 ⟨rfl, hb⟩; refine ⟨_, rfl, ?_⟩; replace BK355 := Cz.bk BK355 hb; replace HB := Cz.bs (w := w) hb; (try clear hb); obtain ⟨z9_0, z9_1, z9_2, z9_3, y9_0, y9_1, y9_2, y9_3⟩ := Cz.d4 BK355) | ((with_reducible refine gate_callee (f := 15) rfl ?_); refine Cz.gL (N := (some 20)) Try.func15 #[.agg #[.int .i64 a0_0, .int .i64 a0_1, .int .i64 a0_2, .slice A0_3 l0_3.length c0_3]] ?_; (with_reducible refine (stream_Write.calls a0_0 a0_1 a0_2 _ _ l0_3 t357 t360 _ ?side1 ?side2 A5.out).mono ?_); (case side1 => exact Cz.cb HR0_3); (case side2 => exact HC0_3.out); rintro e w10 ⟨v358, rfl, ho0, hb⟩; refine ⟨_, rfl, ?_⟩; have HO359 := Aside0.mk (Kd.R_lower ho0 (below_size (Cz.bl (w := w)))); replace BK355 := Cz.bk BK355 hb; replace HB := Cz.bs (w := w) hb; (try clear hb); (try clear ho0)))
 (try simp only [Act.put, Kx.sb, Kx.sz, Kx.ss])
 go_cut [29] (fun v29 wc => ∃ (kq : Nat) (x29_5 : Bool), v29 = .bool x29_5 ∧ Aside0 (waggonerlaw17_StreamGrows.j0 kq a1 a2 t356 t357 x29_5 a0_0 a0_1 a0_2 l0_3 = some true) ∧ Aside0 (kq ≤ k) ∧ Aside0 (Kd.R (Kd.int .u8) 5 wc w.heap.size (fun _ => True) v358 t357) ∧ Aside0 (wc.heap[gb355]? = some (.cells #[.int .i64 a0_0, .int .i64 a0_1, .int .i64 a0_2, (.slice A0_3 l0_3.length c0_3)] 24 (0, 0))) ∧ Aside0 (Below w.heap.size w wc))
 case first =>
  have H := HC6.out
  clear HC6
  by_cases c11 : t360 = 0
  ·rw [if_pos c11] at H
   have c11b0 : (t360 == 0) = true := beq_iff_eq.mpr c11
   have c11b1 : (t360 != 0) = false := bne_eq_false_iff_eq.mpr c11
   clear c11
   (first | rw [c11b0] | (simp only [i64_w, i32_w]; rw [c11b0]) | skip)
   replace H := Option.bind_eq_some_iff.mp H
   obtain ⟨t361, A120, H⟩ := H
   (try dsimp only at H)
   have A12 := Aside0.mk A120
   clear A120
   have H' := Aside0.mk H
   clear H
   obtain ⟨z13_0, z13_1, z13_2, z13_3, y13_0, y13_1, y13_2, y13_3⟩ := Cz.d4 BK355
   go_wp2_with (first | (go_at_call 16; (with_reducible refine (waggonerlaw17_few.calls a0_0 a0_1 a0_2 _ _ l0_3 t361 _ ?side1 ?side2 A12.out).mono ?_); (case side1 => exact Cz.cb HR0_3); (case side2 => exact HC0_3.out); rintro e w14 ⟨rfl, hb⟩; replace HO359 := Cz.rb HO359 hb; replace BK355 := Cz.bk BK355 hb; replace HB := Cz.bs (w := w) hb; (try clear hb)))
   go_meet
   case rel => exact ⟨_, (!t361), Cz.si, H', ⟨by first | omega | exact Nat.le_refl _⟩, ⟨by (with_reducible repeat (first | apply Kd.R_alloc | apply Kd.R_drewN | apply Kd.R_drew)); exact HO359.out⟩, ⟨by (with_reducible repeat (first | refine blk_drewN ?_ _ | refine blk_drew ?_ | refine blk_alloc ?_ _)); exact BK355.out⟩, ⟨Cz.bl (w := w)⟩⟩
  ·rw [if_neg c11] at H
   have c11b0 : (t360 == 0) = false := beq_eq_false_iff_ne.mpr c11
   have c11b1 : (t360 != 0) = true := bne_iff_ne.mpr c11
   (first | rw [c11b0] | (simp only [i64_w, i32_w]; rw [c11b0]) | skip)
   have H' := Aside0.mk H
   clear H
   go_wp2
   go_meet
   case rel => exact ⟨_, (true), Cz.si, H', ⟨by first | omega | exact Nat.le_refl _⟩, ⟨by (with_reducible repeat (first | apply Kd.R_alloc | apply Kd.R_drewN | apply Kd.R_drew)); exact HO359.out⟩, ⟨by (with_reducible repeat (first | refine blk_drewN ?_ _ | refine blk_drew ?_ | refine blk_alloc ?_ _)); exact BK355.out⟩, ⟨Cz.bl (w := w)⟩⟩
 case rest =>
  clear HC6
  try clear c1
  try clear p2
  try clear c3
  try clear c11
  try clear c11b0
  try clear c11b1
  try clear c14
  try clear z13_0 z13_1 z13_2 z13_3 y13_0 y13_1 y13_2 y13_3
  try clear z9_0 z9_1 z9_2 z9_3 y9_0 y9_1 y9_2 y9_3
  obtain ⟨kq, x29_5, rfl, HA, HJ5, HO_8, BK355, HB⟩ := hcut
  cases kq with
  | zero => exact absurd HA.out (by simp [waggonerlaw17_StreamGrows.j0])
  | succ kj5 =>
   have H := HA.out
   clear HA
   simp only [waggonerlaw17_StreamGrows.j0] at H
   by_cases c15 : x29_5 = true
   ·subst c15
    rw [if_pos rfl] at H
    (have HRT := Aside0.mk (Option.some.inj H); clear H)
    go_wp2
    go_ret
    exact ⟨by first | rfl | (exact congrArg (fun z_ => Ending.returned (Value.bool z_)) HRT.out) | (rw [HRT.out]; done) | (simp [errW_none, errW_some] <;> rfl) | (simp [*, errW_none, errW_some] <;> rfl), Cz.bl (w := w)⟩
   ·replace c15 := Bool.eq_false_iff.mpr c15
    subst c15
    rw [if_neg (show ¬ (false = true) by decide)] at H
    by_cases c16 : (t357.length : Int) < 29
    ·rw [if_pos c16] at H
     have c16b0 : decide ((t357.length : Int) < 29) = true := decide_eq_true c16
     have c16b1 : decide (t357.length < 29) = true := decide_eq_true (by omega)
     clear c16
     (have HRT := Aside0.mk (Option.some.inj H); clear H)
     obtain ⟨Ao17, co17, eo17⟩ := Kd.R_slice HO_8.out
     subst eo17
     go_wp2
     go_ret
     exact ⟨by first | rfl | (exact congrArg (fun z_ => Ending.returned (Value.bool z_)) HRT.out) | (rw [HRT.out]; done) | (simp [errW_none, errW_some] <;> rfl) | (simp [*, errW_none, errW_some] <;> rfl), Cz.bl (w := w)⟩
    ·rw [if_neg c16] at H
     have c16b0 : decide ((t357.length : Int) < 29) = false := decide_eq_false c16
     have c16b1 : decide (t357.length < 29) = false := decide_eq_false (by omega)
     clear c16
     by_cases c18 : (t357.length : Int) = 0
     ·rw [if_pos c18] at H
      exact absurd H (by simp)
     ·rw [if_neg c18] at H
      have c18b0 : ((t357.length : Int) == 0) = false := beq_eq_false_iff_ne.mpr c18
      have c18b1 : ((t357.length : Int) != 0) = true := bne_iff_ne.mpr c18
      have c18b2 : ¬ (t357 = []) := fun h_ => c18 (by rw [h_]; rfl)
      obtain ⟨ji19, hji19⟩ : ∃ j_ : Int, (mn (Int.tmod (wrap64 (a1)) (t357.length : Int)) (Int.tmod (wrap64 (a2)) (t357.length : Int))) = j_ := ⟨_, rfl⟩
      replace H : (if 0 ≤ (ji19) then (if (ji19) ≤ (t357.length : Int) then ((stream_Begin.f (t357.take ((ji19) : Int).toNat)).bind fun bt366 => (if 0 ≤ (mx (Int.tmod (wrap64 (a1)) (t357.length : Int)) (Int.tmod (wrap64 (a2)) (t357.length : Int))) then (if (mx (Int.tmod (wrap64 (a1)) (t357.length : Int)) (Int.tmod (wrap64 (a2)) (t357.length : Int))) ≤ (t357.length : Int) then ((stream_Begin.f (t357.take ((mx (Int.tmod (wrap64 (a1)) (t357.length : Int)) (Int.tmod (wrap64 (a2)) (t357.length : Int))) : Int).toNat)).bind fun bt378 => (if bt366.1 = 0 then (if bt366.2.2.1 = 0 then (if t356 = true then (if bt366.2.2.2.2 = 161 then (if bt378.2.2.2.2 = 161 then (if (bt366.2.2.2.1.length : Int) ≤ (bt378.2.2.2.1.length : Int) then (if (bt378.2.2.2.1.length : Int) ≤ (l0_3.length : Int) then (if bt378.1 = 0 then (some true) else (if bt378.1 = a0_0 then (some (bt378.2.2.1 == a0_2)) else (some false))) else (some false)) else (some false)) else (some false)) else (some false)) else (some false)) else (if bt366.1 = bt378.1 then (if bt366.2.1 = bt378.2.1 then (if t356 = true then (if bt366.2.2.2.2 = 161 then (if bt378.2.2.2.2 = 161 then (if bt366.2.2.1 = bt378.2.2.1 then (if (bt366.2.2.2.1.length : Int) ≤ (bt378.2.2.2.1.length : Int) then (if (bt378.2.2.2.1.length : Int) ≤ (l0_3.length : Int) then (if bt378.1 = 0 then (some true) else (if bt378.1 = a0_0 then (some (bt378.2.2.1 == a0_2)) else (some false))) else (some false)) else (some false)) else (some false)) else (some false)) else (some false)) else (some false)) else (if t356 = true then (if bt366.2.2.2.2 = 161 then (if bt378.2.2.2.2 = 161 then (some false) else (some false)) else (some false)) else (some false))) else (if t356 = true then (if bt366.2.2.2.2 = 161 then (if bt378.2.2.2.2 = 161 then (some false) else (some false)) else (some false)) else (some false)))) else (if bt366.1 = bt378.1 then (if bt366.2.1 = bt378.2.1 then (if t356 = true then (if bt366.2.2.2.2 = 161 then (if bt378.2.2.2.2 = 161 then (if bt366.2.2.1 = bt378.2.2.1 then (if (bt366.2.2.2.1.length : Int) ≤ (bt378.2.2.2.1.length : Int) then (if (bt378.2.2.2.1.length : Int) ≤ (l0_3.length : Int) then (if bt378.1 = 0 then (some true) else (if bt378.1 = a0_0 then (some (bt378.2.2.1 == a0_2)) else (some false))) else (some false)) else (some false)) else (some false)) else (some false)) else (some false)) else (some false)) else (if t356 = true then (if bt366.2.2.2.2 = 161 then (if bt378.2.2.2.2 = 161 then (some false) else (some false)) else (some false)) else (some false))) else (if t356 = true then (if bt366.2.2.2.2 = 161 then (if bt378.2.2.2.2 = 161 then (some false) else (some false)) else (some false)) else (some false))))) else (none)) else (none))) else (none)) else (none)) = some true := by first | (rw [hji19] at H; exact H) | (simp only [hji19] at H ⊢; exact H)
      have hji19_ : (if (Int.tmod (wrap64 (a2)) (t357.length : Int)) < (Int.tmod (wrap64 (a1)) (t357.length : Int)) then (Int.tmod (wrap64 (a2)) (t357.length : Int)) else (Int.tmod (wrap64 (a1)) (t357.length : Int))) = ji19 := hji19
      by_cases c20 : 0 ≤ (ji19)
      ·rw [if_pos c20] at H
       have c20b0 := eq_true c20
       have c20b1 : decide (0 ≤ (ji19)) = true := decide_eq_true c20
       clear c20
       by_cases c21 : (ji19) ≤ (t357.length : Int)
       ·rw [if_pos c21] at H
        have c21b0 := eq_true c21
        have c21b1 : decide ((ji19) ≤ (t357.length : Int)) = true := decide_eq_true c21
        clear c21
        obtain ⟨y362, hy362⟩ : ∃ y_ : List Int, y_ = (t357.take ((ji19) : Int).toNat) := ⟨_, rfl⟩
        replace H : ((stream_Begin.f y362).bind fun bt366 => (if 0 ≤ (mx (Int.tmod (wrap64 (a1)) (t357.length : Int)) (Int.tmod (wrap64 (a2)) (t357.length : Int))) then (if (mx (Int.tmod (wrap64 (a1)) (t357.length : Int)) (Int.tmod (wrap64 (a2)) (t357.length : Int))) ≤ (t357.length : Int) then ((stream_Begin.f (t357.take ((mx (Int.tmod (wrap64 (a1)) (t357.length : Int)) (Int.tmod (wrap64 (a2)) (t357.length : Int))) : Int).toNat)).bind fun bt378 => (if bt366.1 = 0 then (if bt366.2.2.1 = 0 then (if t356 = true then (if bt366.2.2.2.2 = 161 then (if bt378.2.2.2.2 = 161 then (if (bt366.2.2.2.1.length : Int) ≤ (bt378.2.2.2.1.length : Int) then (if (bt378.2.2.2.1.length : Int) ≤ (l0_3.length : Int) then (if bt378.1 = 0 then (some true) else (if bt378.1 = a0_0 then (some (bt378.2.2.1 == a0_2)) else (some false))) else (some false)) else (some false)) else (some false)) else (some false)) else (some false)) else (if bt366.1 = bt378.1 then (if bt366.2.1 = bt378.2.1 then (if t356 = true then (if bt366.2.2.2.2 = 161 then (if bt378.2.2.2.2 = 161 then (if bt366.2.2.1 = bt378.2.2.1 then (if (bt366.2.2.2.1.length : Int) ≤ (bt378.2.2.2.1.length : Int) then (if (bt378.2.2.2.1.length : Int) ≤ (l0_3.length : Int) then (if bt378.1 = 0 then (some true) else (if bt378.1 = a0_0 then (some (bt378.2.2.1 == a0_2)) else (some false))) else (some false)) else (some false)) else (some false)) else (some false)) else (some false)) else (some false)) else (if t356 = true then (if bt366.2.2.2.2 = 161 then (if bt378.2.2.2.2 = 161 then (some false) else (some false)) else (some false)) else (some false))) else (if t356 = true then (if bt366.2.2.2.2 = 161 then (if bt378.2.2.2.2 = 161 then (some false) else (some false)) else (some false)) else (some false)))) else (if bt366.1 = bt378.1 then (if bt366.2.1 = bt378.2.1 then (if t356 = true then (if bt366.2.2.2.2 = 161 then (if bt378.2.2.2.2 = 161 then (if bt366.2.2.1 = bt378.2.2.1 then (if (bt366.2.2.2.1.length : Int) ≤ (bt378.2.2.2.1.length : Int) then (if (bt378.2.2.2.1.length : Int) ≤ (l0_3.length : Int) then (if bt378.1 = 0 then (some true) else (if bt378.1 = a0_0 then (some (bt378.2.2.1 == a0_2)) else (some false))) else (some false)) else (some false)) else (some false)) else (some false)) else (some false)) else (some false)) else (if t356 = true then (if bt366.2.2.2.2 = 161 then (if bt378.2.2.2.2 = 161 then (some false) else (some false)) else (some false)) else (some false))) else (if t356 = true then (if bt366.2.2.2.2 = 161 then (if bt378.2.2.2.2 = 161 then (some false) else (some false)) else (some false)) else (some false))))) else (none)) else (none))) = some true := by first | (rw [hy362]; with_reducible exact H) | (have H2_ := (Option.bind_some _ _).symm.trans H; rw [hy362]; with_reducible exact H2_) | (have H2_ := (Option.bind_some _ _).symm.trans H; with_reducible exact H2_) | with_reducible exact H | (rw [hy362]; exact H) | exact H
        have Ny362 := Aside0.mk hy362
        clear hy362
        replace H := Option.bind_eq_some_iff.mp H
        obtain ⟨⟨t366, t367, t368, t369, t372⟩, A220, H⟩ := H
        (try dsimp only at H)
        have A22 := Aside0.mk A220
        clear A220
        obtain ⟨ji23, hji23⟩ : ∃ j_ : Int, (mx (Int.tmod (wrap64 (a1)) (t357.length : Int)) (Int.tmod (wrap64 (a2)) (t357.length : Int))) = j_ := ⟨_, rfl⟩
        replace H : (if 0 ≤ (ji23) then (if (ji23) ≤ (t357.length : Int) then ((stream_Begin.f (t357.take ((ji23) : Int).toNat)).bind fun bt378 => (if t366 = 0 then (if t368 = 0 then (if t356 = true then (if t372 = 161 then (if bt378.2.2.2.2 = 161 then (if (t369.length : Int) ≤ (bt378.2.2.2.1.length : Int) then (if (bt378.2.2.2.1.length : Int) ≤ (l0_3.length : Int) then (if bt378.1 = 0 then (some true) else (if bt378.1 = a0_0 then (some (bt378.2.2.1 == a0_2)) else (some false))) else (some false)) else (some false)) else (some false)) else (some false)) else (some false)) else (if t366 = bt378.1 then (if t367 = bt378.2.1 then (if t356 = true then (if t372 = 161 then (if bt378.2.2.2.2 = 161 then (if t368 = bt378.2.2.1 then (if (t369.length : Int) ≤ (bt378.2.2.2.1.length : Int) then (if (bt378.2.2.2.1.length : Int) ≤ (l0_3.length : Int) then (if bt378.1 = 0 then (some true) else (if bt378.1 = a0_0 then (some (bt378.2.2.1 == a0_2)) else (some false))) else (some false)) else (some false)) else (some false)) else (some false)) else (some false)) else (some false)) else (if t356 = true then (if t372 = 161 then (if bt378.2.2.2.2 = 161 then (some false) else (some false)) else (some false)) else (some false))) else (if t356 = true then (if t372 = 161 then (if bt378.2.2.2.2 = 161 then (some false) else (some false)) else (some false)) else (some false)))) else (if t366 = bt378.1 then (if t367 = bt378.2.1 then (if t356 = true then (if t372 = 161 then (if bt378.2.2.2.2 = 161 then (if t368 = bt378.2.2.1 then (if (t369.length : Int) ≤ (bt378.2.2.2.1.length : Int) then (if (bt378.2.2.2.1.length : Int) ≤ (l0_3.length : Int) then (if bt378.1 = 0 then (some true) else (if bt378.1 = a0_0 then (some (bt378.2.2.1 == a0_2)) else (some false))) else (some false)) else (some false)) else (some false)) else (some false)) else (some false)) else (some false)) else (if t356 = true then (if t372 = 161 then (if bt378.2.2.2.2 = 161 then (some false) else (some false)) else (some false)) else (some false))) else (if t356 = true then (if t372 = 161 then (if bt378.2.2.2.2 = 161 then (some false) else (some false)) else (some false)) else (some false))))) else (none)) else (none)) = some true := by first | (rw [hji23] at H; exact H) | (simp only [hji23] at H ⊢; exact H)
        (try rw [hji23] at A22)
        have hji23_ : (if (Int.tmod (wrap64 (a1)) (t357.length : Int)) < (Int.tmod (wrap64 (a2)) (t357.length : Int)) then (Int.tmod (wrap64 (a2)) (t357.length : Int)) else (Int.tmod (wrap64 (a1)) (t357.length : Int))) = ji23 := hji23
        by_cases c24 : 0 ≤ (ji23)
        ·rw [if_pos c24] at H
         have c24b0 := eq_true c24
         have c24b1 : decide (0 ≤ (ji23)) = true := decide_eq_true c24
         clear c24
         by_cases c25 : (ji23) ≤ (t357.length : Int)
         ·rw [if_pos c25] at H
          have c25b0 := eq_true c25
          have c25b1 : decide ((ji23) ≤ (t357.length : Int)) = true := decide_eq_true c25
          clear c25
          obtain ⟨y374, hy374⟩ : ∃ y_ : List Int, y_ = (t357.take ((ji23) : Int).toNat) := ⟨_, rfl⟩
          replace H : ((stream_Begin.f y374).bind fun bt378 => (if t366 = 0 then (if t368 = 0 then (if t356 = true then (if t372 = 161 then (if bt378.2.2.2.2 = 161 then (if (t369.length : Int) ≤ (bt378.2.2.2.1.length : Int) then (if (bt378.2.2.2.1.length : Int) ≤ (l0_3.length : Int) then (if bt378.1 = 0 then (some true) else (if bt378.1 = a0_0 then (some (bt378.2.2.1 == a0_2)) else (some false))) else (some false)) else (some false)) else (some false)) else (some false)) else (some false)) else (if t366 = bt378.1 then (if t367 = bt378.2.1 then (if t356 = true then (if t372 = 161 then (if bt378.2.2.2.2 = 161 then (if t368 = bt378.2.2.1 then (if (t369.length : Int) ≤ (bt378.2.2.2.1.length : Int) then (if (bt378.2.2.2.1.length : Int) ≤ (l0_3.length : Int) then (if bt378.1 = 0 then (some true) else (if bt378.1 = a0_0 then (some (bt378.2.2.1 == a0_2)) else (some false))) else (some false)) else (some false)) else (some false)) else (some false)) else (some false)) else (some false)) else (if t356 = true then (if t372 = 161 then (if bt378.2.2.2.2 = 161 then (some false) else (some false)) else (some false)) else (some false))) else (if t356 = true then (if t372 = 161 then (if bt378.2.2.2.2 = 161 then (some false) else (some false)) else (some false)) else (some false)))) else (if t366 = bt378.1 then (if t367 = bt378.2.1 then (if t356 = true then (if t372 = 161 then (if bt378.2.2.2.2 = 161 then (if t368 = bt378.2.2.1 then (if (t369.length : Int) ≤ (bt378.2.2.2.1.length : Int) then (if (bt378.2.2.2.1.length : Int) ≤ (l0_3.length : Int) then (if bt378.1 = 0 then (some true) else (if bt378.1 = a0_0 then (some (bt378.2.2.1 == a0_2)) else (some false))) else (some false)) else (some false)) else (some false)) else (some false)) else (some false)) else (some false)) else (if t356 = true then (if t372 = 161 then (if bt378.2.2.2.2 = 161 then (some false) else (some false)) else (some false)) else (some false))) else (if t356 = true then (if t372 = 161 then (if bt378.2.2.2.2 = 161 then (some false) else (some false)) else (some false)) else (some false))))) = some true := by first | (rw [hy374]; with_reducible exact H) | (have H2_ := (Option.bind_some _ _).symm.trans H; rw [hy374]; with_reducible exact H2_) | (have H2_ := (Option.bind_some _ _).symm.trans H; with_reducible exact H2_) | with_reducible exact H | (rw [hy374]; exact H) | exact H
          have Ny374 := Aside0.mk hy374
          clear hy374
          replace H := Option.bind_eq_some_iff.mp H
          obtain ⟨⟨t378, t379, t380, t381, t384⟩, A260, H⟩ := H
          (try dsimp only at H)
          have A26 := Aside0.mk A260
          clear A260
          obtain ⟨Ao35, co35, eo35⟩ := Kd.R_slice HO_8.out
          subst eo35
          have q36 : ((ji19) : Int) ≤ ((t357.length : Int) : Int) := of_decide_eq_true (by first | (with_reducible assumption) | assumption)
          obtain ⟨i036, hi036, _, hsz36, _⟩ := info_parts info5
          have hroom36 : t357.length ≤ co35 := (Kd.R_reads' HO_8.out).2.1
          have hC36 : Kd.C (Kd.int .u8) _ Ao35 t357.length t357 := (Kd.R_reads' HO_8.out).2.2
          have hcut36 := cut_to (P := Try.prog) 27 5 .i64 Try.underlying27 hi036 Ao35 t357.length co35 (ji19) (of_decide_eq_true (by first | (with_reducible assumption) | assumption)) q36 hroom36
          have hr36 := Kd.C_take (m := ((ji19) : Int).toNat) hC36 (by omega)
          have hy36 : y362.length = ((ji19) : Int).toNat := (by rw [Ny362.out, List.length_take]; omega)
          rw [← Ny362.out] at hr36
          rw [← hy36] at hcut36
          have HR365 := Aside0.mk hr36
          have HC365 := Aside0.mk (show y362.length ≤ co35 from by omega)
          clear hr36 hC36 hroom36 hi036 hsz36
          have KY36 := Aside0.mk hy36
          clear hy36
          have KL36 := Aside0.mk (show ((ji19) : Int).toNat ≤ t357.length from by omega)
          replace q36 := eq_true q36
          go_upto_region 11 with (first | ((with_reducible refine gate_callee (f := 17) rfl ?_); refine Cz.gL (N := (some 50)) Try.func17 #[.slice Ao35 y362.length co35] ?_; (with_reducible refine (stream_Begin.calls _ _ y362 t366 t367 t368 t369 t372 _ ?side1 ?side2 A22.out).mono ?_); (case side1 => repeat (first | exact (by repeat (first | (with_reducible exact HR365.out) | (with_reducible refine Kd.C_alloc ?_ _) | (with_reducible refine Kd.C_drewN ?_ _) | (with_reducible refine Kd.C_drew ?_) | exact HR365.out)) | (with_reducible refine Kd.C_alloc ?_ _) | (with_reducible refine Kd.C_drewN ?_ _) | (with_reducible refine Kd.C_drew ?_))); (case side2 => exact HC365.out); rintro e w37 ⟨v370, rfl, ho0, hb⟩; refine ⟨_, rfl, ?_⟩; have HO371 := Aside0.mk (Kd.R_lower (Kd.R_new' ho0 (Kd.R_lt (by (with_reducible repeat (first | apply Kd.R_alloc | apply Kd.R_drewN | apply Kd.R_drew)); exact HO_8.out))) (below_size (Cz.bl (w := w)))); replace HO_8 := Cz.rb HO_8 hb; replace BK355 := Cz.bk BK355 hb; replace HR365 := Aside0.mk (Kd.C_below (by repeat (first | (with_reducible exact HR365.out) | (with_reducible refine Kd.C_alloc ?_ _) | (with_reducible refine Kd.C_drewN ?_ _) | (with_reducible refine Kd.C_drew ?_) | exact HR365.out)) hb); replace HB := Cz.bs (w := w) hb; (try clear hb); (try clear ho0)) | ((with_reducible refine gate_dst (N := 12) rfl ?_); (try (refine gate_guard (by rfl) ?_; dsimp only)); refine Cz.bx (N := 12) #[.int .i64 0, .int .i64 0, .int .i64 0, .slice none 0 0] 24 ?_; intro gb373 hg w38 hbox hb; have BK373 := Aside0.mk (hbox); have GW373 := Aside0.mk ((Cz.gs hg : w.heap.size ≤ gb373)); have GE373 := GW373; have NB355_373 := Aside0.mk ((Cz.nl BK355 hg : gb355 ≠ gb373)); have NB373_355 := Aside0.mk ((Cz.nr BK355 hg : gb373 ≠ gb355)); replace HO_8 := Cz.rb HO_8 hb; replace HO371 := Cz.rb HO371 hb; replace BK355 := Cz.bk BK355 hb; replace HR365 := Aside0.mk (Kd.C_below (by repeat (first | (with_reducible exact HR365.out) | (with_reducible refine Kd.C_alloc ?_ _) | (with_reducible refine Kd.C_drewN ?_ _) | (with_reducible refine Kd.C_drew ?_) | exact HR365.out)) hb); replace HB := Cz.bs (w := w) hb; clear hb hbox hg; have hnb39 := NB373_355.out; have hnc39 := NB355_373.out; obtain ⟨z40_0, z40_1, z40_2, z40_3, y40_0, y40_1, y40_2, y40_3⟩ := Cz.d4 BK373; obtain ⟨Ao41, co41, eo41⟩ := Kd.R_slice HO371.out; subst eo41) | ((with_reducible refine gate_store (t := 24) (p := 12) rfl ?_); refine store_event (t := 24) (p := 12) (v := ?vo_w42) (w1 := ((((w38.setCell ⟨gb373, 0, none⟩ (.int .i64 t366)).setCell ⟨gb373, 1, none⟩ (.int .i64 t367)).setCell ⟨gb373, 2, none⟩ (.int .i64 t368)).setCell ⟨gb373, 3, none⟩ (.slice Ao41 t369.length co41))) ?hg ?ho ?hn ?hr ?_; (case ho => rfl); (case hg => rfl); (case hn => rfl); (case hr => first | (go_simp; done) | (go_simp; rfl)); intro w42 hw; have n0_ : Aside0 (Kd.R (Kd.int .u8) 5 w42 w.heap.size (fun _ => True) (.slice Ao35 t357.length co35) t357) := ⟨(by rw [hw]; exact (by (with_reducible repeat (first | apply Kd.R_alloc | apply Kd.R_drewN | apply Kd.R_drew)); exact Kd.R_mono (Cz.rf (Cz.rf (Cz.rf (Cz.rf (Kd.R_types HO_8.out BK373.out (by decide)))))) (fun _ hk => trivial)))⟩; have n1_ : Aside0 (Kd.R k36 36 w42 w.heap.size (fun k_ => some k_ ≠ (.slice Ao35 t357.length co35 : Value).ownBlock) (.slice Ao41 t369.length co41) t369) := ⟨(by rw [hw]; exact (by (with_reducible repeat (first | apply Kd.R_alloc | apply Kd.R_drewN | apply Kd.R_drew)); exact Kd.R_mono (Cz.rf (Cz.rf (Cz.rf (Cz.rf (Kd.R_types HO371.out BK373.out (by decide)))))) (fun _ hk => hk.1.2)))⟩; have n2_ : Aside0 (w42.heap[gb355]? = some (.cells #[.int .i64 a0_0, .int .i64 a0_1, .int .i64 a0_2, .slice A0_3 l0_3.length c0_3] 24 (0, 0))) := ⟨(by rw [hw]; exact (by (with_reducible repeat (first | refine blk_drewN ?_ _ | refine blk_drew ?_ | refine blk_alloc ?_ _)); refine blk_far ?_ NB355_373.out _; refine blk_far ?_ NB355_373.out _; refine blk_far ?_ NB355_373.out _; refine blk_far ?_ NB355_373.out _; (with_reducible repeat (first | refine blk_drewN ?_ _ | refine blk_drew ?_ | refine blk_alloc ?_ _)); exact BK355.out))⟩; have n3_ : Aside0 (w42.heap[gb373]? = some (.cells #[.int .i64 t366, .int .i64 t367, .int .i64 t368, .slice Ao41 t369.length co41] 24 (0, 0))) := ⟨(by rw [hw]; exact (by (with_reducible repeat (first | refine blk_drewN ?_ _ | refine blk_drew ?_ | refine blk_alloc ?_ _)); apply Cz.a4; (with_reducible repeat (first | refine blk_drewN ?_ _ | refine blk_drew ?_ | refine blk_alloc ?_ _)); exact BK373.out))⟩; have n4_ : Aside0 (Below w.heap.size w w42) := ⟨(by rw [hw]; exact (Cz.bl (w := w)))⟩; clear hw; clear HO_8; clear HO371; clear BK355; clear BK373; clear HB; have HO_8 := n0_; have HO371 := n1_; have BK355 := n2_; have BK373 := n3_; have HB := n4_; clear n0_ n1_ n2_ n3_ n4_; have q43 : ((ji23) : Int) ≤ ((t357.length : Int) : Int) := of_decide_eq_true (by first | (with_reducible assumption) | assumption); obtain ⟨i043, hi043, _, hsz43, _⟩ := info_parts info5; have hroom43 : t357.length ≤ co35 := (Kd.R_reads' HO_8.out).2.1; have hC43 : Kd.C (Kd.int .u8) _ Ao35 t357.length t357 := (Kd.R_reads' HO_8.out).2.2; have hcut43 := cut_to (P := Try.prog) 27 5 .i64 Try.underlying27 hi043 Ao35 t357.length co35 (ji23) (of_decide_eq_true (by first | (with_reducible assumption) | assumption)) q43 hroom43; have hr43 := Kd.C_take (m := ((ji23) : Int).toNat) hC43 (by omega); have hy43 : y374.length = ((ji23) : Int).toNat := (by rw [Ny374.out, List.length_take]; omega); rw [← Ny374.out] at hr43; rw [← hy43] at hcut43; have HR377 := Aside0.mk hr43; have HC377 := Aside0.mk (show y374.length ≤ co35 from by omega); clear hr43 hC43 hroom43 hi043 hsz43; have KY43 := Aside0.mk hy43; clear hy43; have KL43 := Aside0.mk (show ((ji23) : Int).toNat ≤ t357.length from by omega); replace q43 := eq_true q43) | ((with_reducible refine gate_callee (f := 17) rfl ?_); refine Cz.gL (N := (some 59)) Try.func17 #[.slice Ao35 y374.length co35] ?_; (with_reducible refine (stream_Begin.calls _ _ y374 t378 t379 t380 t381 t384 _ ?side1 ?side2 A26.out).mono ?_); (case side1 => repeat (first | exact (by repeat (first | (with_reducible exact HR377.out) | (with_reducible refine Kd.C_alloc ?_ _) | (with_reducible refine Kd.C_drewN ?_ _) | (with_reducible refine Kd.C_drew ?_) | exact HR377.out)) | (with_reducible refine Kd.C_alloc ?_ _) | (with_reducible refine Kd.C_drewN ?_ _) | (with_reducible refine Kd.C_drew ?_))); (case side2 => exact HC377.out); rintro e w44 ⟨v382, rfl, ho0, hb⟩; refine ⟨_, rfl, ?_⟩; have HO383 := Aside0.mk (Kd.R_lower (Kd.R_new' (Kd.R_new' ho0 (Kd.R_lt (by (with_reducible repeat (first | apply Kd.R_alloc | apply Kd.R_drewN | apply Kd.R_drew)); exact HO_8.out))) (Kd.R_lt (by (with_reducible repeat (first | apply Kd.R_alloc | apply Kd.R_drewN | apply Kd.R_drew)); exact HO371.out))) (below_size (Cz.bl (w := w)))); replace HO_8 := Cz.rb HO_8 hb; replace HO371 := Aside0.mk (Kd.R_elder' (Cz.rq HO371) (Kd.R_base ho0) hb); replace BK355 := Cz.bk BK355 hb; replace BK373 := Cz.bk BK373 hb; replace HR377 := Aside0.mk (Kd.C_below (by repeat (first | (with_reducible exact HR377.out) | (with_reducible refine Kd.C_alloc ?_ _) | (with_reducible refine Kd.C_drewN ?_ _) | (with_reducible refine Kd.C_drew ?_) | exact HR377.out)) hb); replace HB := Cz.bs (w := w) hb; (try clear hb); (try clear ho0)) | ((with_reducible refine gate_dst (N := 14) rfl ?_); (try (refine gate_guard (by rfl) ?_; dsimp only)); refine Cz.bx (N := 14) #[.int .i64 0, .int .i64 0, .int .i64 0, .slice none 0 0] 24 ?_; intro gb385 hg w45 hbox hb; have BK385 := Aside0.mk (hbox); have GW385 := Aside0.mk ((Cz.gs hg : w.heap.size ≤ gb385)); have GE385 := GW385; have NB355_385 := Aside0.mk ((Cz.nl BK355 hg : gb355 ≠ gb385)); have NB385_355 := Aside0.mk ((Cz.nr BK355 hg : gb385 ≠ gb355)); have NB373_385 := Aside0.mk ((Cz.nl BK373 hg : gb373 ≠ gb385)); have NB385_373 := Aside0.mk ((Cz.nr BK373 hg : gb385 ≠ gb373)); replace HO_8 := Cz.rb HO_8 hb; replace HO371 := Cz.rb HO371 hb; replace HO383 := Cz.rb HO383 hb; replace BK355 := Cz.bk BK355 hb; replace BK373 := Cz.bk BK373 hb; replace HR377 := Aside0.mk (Kd.C_below (by repeat (first | (with_reducible exact HR377.out) | (with_reducible refine Kd.C_alloc ?_ _) | (with_reducible refine Kd.C_drewN ?_ _) | (with_reducible refine Kd.C_drew ?_) | exact HR377.out)) hb); replace HB := Cz.bs (w := w) hb; clear hb hbox hg; have hnb46 := NB385_355.out; have hnc46 := NB355_385.out; have hnb47 := NB385_373.out; have hnc47 := NB373_385.out; obtain ⟨z48_0, z48_1, z48_2, z48_3, y48_0, y48_1, y48_2, y48_3⟩ := Cz.d4 BK385; obtain ⟨Ao49, co49, eo49⟩ := Kd.R_slice HO383.out; subst eo49; obtain ⟨z50_0, z50_1, z50_2, z50_3, y50_0, y50_1, y50_2, y50_3⟩ := Cz.d4 BK373; obtain ⟨z51_0, z51_1, z51_2, z51_3, y51_0, y51_1, y51_2, y51_3⟩ := Cz.d4 BK355))
          by_cases c27 : t366 = 0
          ·rw [if_pos c27] at H
           have c27b0 : (t366 == 0) = true := beq_iff_eq.mpr c27
           have c27b1 : (t366 != 0) = false := bne_eq_false_iff_eq.mpr c27
           clear c27
           by_cases c28 : t368 = 0
           ·rw [if_pos c28] at H
            have c28b0 : (t368 == 0) = true := beq_iff_eq.mpr c28
            have c28b1 : (t368 != 0) = false := bne_eq_false_iff_eq.mpr c28
            clear c28
            by_cases c29 : t356 = true
            ·subst c29
             rw [if_pos rfl] at H
             by_cases c30 : t372 = 161
             ·rw [if_pos c30] at H
              have c30b0 : (t372 == 161) = true := beq_iff_eq.mpr c30
              have c30b1 : (t372 != 161) = false := bne_eq_false_iff_eq.mpr c30
              clear c30
              by_cases c31 : t384 = 161
              ·rw [if_pos c31] at H
               have c31b0 : (t384 == 161) = true := beq_iff_eq.mpr c31
               have c31b1 : (t384 != 161) = false := bne_eq_false_iff_eq.mpr c31
               clear c31
               by_cases c32 : (t369.length : Int) ≤ (t381.length : Int)
               ·rw [if_pos c32] at H
                have c32b0 : decide ((t369.length : Int) ≤ (t381.length : Int)) = true := decide_eq_true c32
                have c32b1 : decide (t369.length ≤ t381.length) = true := decide_eq_true (Int.ofNat_le.mp c32)
                clear c32
                by_cases c33 : (t381.length : Int) ≤ (l0_3.length : Int)
                ·rw [if_pos c33] at H
                 have c33b0 : decide ((t381.length : Int) ≤ (l0_3.length : Int)) = true := decide_eq_true c33
                 have c33b1 : decide (t381.length ≤ l0_3.length) = true := decide_eq_true (Int.ofNat_le.mp c33)
                 clear c33
                 by_cases c34 : t378 = 0
                 ·rw [if_pos c34] at H
                  have c34b0 : (t378 == 0) = true := beq_iff_eq.mpr c34
                  have c34b1 : (t378 != 0) = false := bne_eq_false_iff_eq.mpr c34
                  clear c34
                  (have HRT := Aside0.mk (Option.some.inj H); clear H)
                  go_wp2
                  go_ret
                  exact ⟨by first | rfl | (exact congrArg (fun z_ => Ending.returned (Value.bool z_)) HRT.out) | (rw [HRT.out]; done) | (simp [errW_none, errW_some] <;> rfl) | (simp only [← hji19, ← hji23]; first | rfl | (simp [errW_none, errW_some] <;> rfl)) | (simp [*, errW_none, errW_some] <;> rfl), Cz.bl (w := w)⟩
                 ·rw [if_neg c34] at H
                  have c34b0 : (t378 == 0) = false := beq_eq_false_iff_ne.mpr c34
                  have c34b1 : (t378 != 0) = true := bne_iff_ne.mpr c34
                  by_cases c52 : t378 = a0_0
                  ·rw [if_pos c52] at H
                   have c52b0 : (t378 == a0_0) = true := beq_iff_eq.mpr c52
                   have c52b1 : (t378 != a0_0) = false := bne_eq_false_iff_eq.mpr c52
                   clear c52
                   (have HRT := Aside0.mk (Option.some.inj H); clear H)
                   go_wp2
                   go_ret
                   exact ⟨by first | rfl | (exact congrArg (fun z_ => Ending.returned (Value.bool z_)) HRT.out) | (rw [HRT.out]; done) | (simp [errW_none, errW_some] <;> rfl) | (simp only [← hji19, ← hji23]; first | rfl | (simp [errW_none, errW_some] <;> rfl)) | (simp [*, errW_none, errW_some] <;> rfl), Cz.bl (w := w)⟩
                  ·rw [if_neg c52] at H
                   have c52b0 : (t378 == a0_0) = false := beq_eq_false_iff_ne.mpr c52
                   have c52b1 : (t378 != a0_0) = true := bne_iff_ne.mpr c52
                   (have HRT := Aside0.mk (Option.some.inj H); clear H)
                   go_wp2
                   go_ret
                   exact ⟨by first | rfl | (exact congrArg (fun z_ => Ending.returned (Value.bool z_)) HRT.out) | (rw [HRT.out]; done) | (simp [errW_none, errW_some] <;> rfl) | (simp only [← hji19, ← hji23]; first | rfl | (simp [errW_none, errW_some] <;> rfl)) | (simp [*, errW_none, errW_some] <;> rfl), Cz.bl (w := w)⟩
                ·rw [if_neg c33] at H
                 first | exact absurd H (by simp; done) | skip
               ·rw [if_neg c32] at H
                first | exact absurd H (by simp; done) | skip
              ·rw [if_neg c31] at H
               first | exact absurd H (by simp; done) | skip
             ·rw [if_neg c30] at H
              first | exact absurd H (by simp; done) | skip
            ·replace c29 := Bool.eq_false_iff.mpr c29
             subst c29
             have H1 : (some false) = some true := by rw [if_neg (show ¬ (false = true) by decide)] at H <;> exact H
             exact absurd H1 (by simp)
           ·rw [if_neg c28] at H
            have c28b0 : (t368 == 0) = false := beq_eq_false_iff_ne.mpr c28
            have c28b1 : (t368 != 0) = true := bne_iff_ne.mpr c28
            by_cases c168 : t366 = t378
            ·rw [if_pos c168] at H
             have c168b0 : (t366 == t378) = true := beq_iff_eq.mpr c168
             have c168b1 : (t366 != t378) = false := bne_eq_false_iff_eq.mpr c168
             clear c168
             by_cases c169 : t367 = t379
             ·rw [if_pos c169] at H
              have c169b0 : (t367 == t379) = true := beq_iff_eq.mpr c169
              have c169b1 : (t367 != t379) = false := bne_eq_false_iff_eq.mpr c169
              clear c169
              by_cases c170 : t356 = true
              ·subst c170
               rw [if_pos rfl] at H
               by_cases c171 : t372 = 161
               ·rw [if_pos c171] at H
                have c171b0 : (t372 == 161) = true := beq_iff_eq.mpr c171
                have c171b1 : (t372 != 161) = false := bne_eq_false_iff_eq.mpr c171
                clear c171
                by_cases c172 : t384 = 161
                ·rw [if_pos c172] at H
                 have c172b0 : (t384 == 161) = true := beq_iff_eq.mpr c172
                 have c172b1 : (t384 != 161) = false := bne_eq_false_iff_eq.mpr c172
                 clear c172
                 by_cases c173 : t368 = t380
                 ·rw [if_pos c173] at H
                  have c173b0 : (t368 == t380) = true := beq_iff_eq.mpr c173
                  have c173b1 : (t368 != t380) = false := bne_eq_false_iff_eq.mpr c173
                  clear c173
                  by_cases c174 : (t369.length : Int) ≤ (t381.length : Int)
                  ·rw [if_pos c174] at H
                   have c174b0 : decide ((t369.length : Int) ≤ (t381.length : Int)) = true := decide_eq_true c174
                   have c174b1 : decide (t369.length ≤ t381.length) = true := decide_eq_true (Int.ofNat_le.mp c174)
                   clear c174
                   by_cases c175 : (t381.length : Int) ≤ (l0_3.length : Int)
                   ·rw [if_pos c175] at H
                    have c175b0 : decide ((t381.length : Int) ≤ (l0_3.length : Int)) = true := decide_eq_true c175
                    have c175b1 : decide (t381.length ≤ l0_3.length) = true := decide_eq_true (Int.ofNat_le.mp c175)
                    clear c175
                    by_cases c176 : t378 = 0
                    ·rw [if_pos c176] at H
                     have c176b0 : (t378 == 0) = true := beq_iff_eq.mpr c176
                     have c176b1 : (t378 != 0) = false := bne_eq_false_iff_eq.mpr c176
                     clear c176
                     (have HRT := Aside0.mk (Option.some.inj H); clear H)
                     go_wp2
                     go_ret
                     exact ⟨by first | rfl | (exact congrArg (fun z_ => Ending.returned (Value.bool z_)) HRT.out) | (rw [HRT.out]; done) | (simp [errW_none, errW_some] <;> rfl) | (simp only [← hji19, ← hji23]; first | rfl | (simp [errW_none, errW_some] <;> rfl)) | (simp [*, errW_none, errW_some] <;> rfl), Cz.bl (w := w)⟩
                    ·rw [if_neg c176] at H
                     have c176b0 : (t378 == 0) = false := beq_eq_false_iff_ne.mpr c176
                     have c176b1 : (t378 != 0) = true := bne_iff_ne.mpr c176
                     by_cases c194 : t378 = a0_0
                     ·rw [if_pos c194] at H
                      have c194b0 : (t378 == a0_0) = true := beq_iff_eq.mpr c194
                      have c194b1 : (t378 != a0_0) = false := bne_eq_false_iff_eq.mpr c194
                      clear c194
                      (have HRT := Aside0.mk (Option.some.inj H); clear H)
                      go_wp2
                      go_ret
                      exact ⟨by first | rfl | (exact congrArg (fun z_ => Ending.returned (Value.bool z_)) HRT.out) | (rw [HRT.out]; done) | (simp [errW_none, errW_some] <;> rfl) | (simp only [← hji19, ← hji23]; first | rfl | (simp [errW_none, errW_some] <;> rfl)) | (simp [*, errW_none, errW_some] <;> rfl), Cz.bl (w := w)⟩
                     ·rw [if_neg c194] at H
                      have c194b0 : (t378 == a0_0) = false := beq_eq_false_iff_ne.mpr c194
                      have c194b1 : (t378 != a0_0) = true := bne_iff_ne.mpr c194
                      (have HRT := Aside0.mk (Option.some.inj H); clear H)
                      go_wp2
                      go_ret
                      exact ⟨by first | rfl | (exact congrArg (fun z_ => Ending.returned (Value.bool z_)) HRT.out) | (rw [HRT.out]; done) | (simp [errW_none, errW_some] <;> rfl) | (simp only [← hji19, ← hji23]; first | rfl | (simp [errW_none, errW_some] <;> rfl)) | (simp [*, errW_none, errW_some] <;> rfl), Cz.bl (w := w)⟩
                   ·rw [if_neg c175] at H
                    first | exact absurd H (by simp; done) | skip
                  ·rw [if_neg c174] at H
                   first | exact absurd H (by simp; done) | skip
                 ·rw [if_neg c173] at H
                  first | exact absurd H (by simp; done) | skip
                ·rw [if_neg c172] at H
                 first | exact absurd H (by simp; done) | skip
               ·rw [if_neg c171] at H
                first | exact absurd H (by simp; done) | skip
              ·replace c170 := Bool.eq_false_iff.mpr c170
               subst c170
               have H1 : (some false) = some true := by rw [if_neg (show ¬ (false = true) by decide)] at H <;> exact H
               exact absurd H1 (by simp)
             ·rw [if_neg c169] at H
              have c169b0 : (t367 == t379) = false := beq_eq_false_iff_ne.mpr c169
              have c169b1 : (t367 != t379) = true := bne_iff_ne.mpr c169
              by_cases c326 : t356 = true
              ·subst c326
               have H1 : (if t372 = 161 then (if t384 = 161 then (some false) else (some false)) else (some false)) = some true := by rw [if_pos rfl] at H <;> exact H
               exact absurd H1 (by simp)
              ·replace c326 := Bool.eq_false_iff.mpr c326
               subst c326
               have H1 : (some false) = some true := by rw [if_neg (show ¬ (false = true) by decide)] at H <;> exact H
               exact absurd H1 (by simp)
            ·rw [if_neg c168] at H
             have c168b0 : (t366 == t378) = false := beq_eq_false_iff_ne.mpr c168
             have c168b1 : (t366 != t378) = true := bne_iff_ne.mpr c168
             by_cases c393 : t356 = true
             ·subst c393
              have H1 : (if t372 = 161 then (if t384 = 161 then (some false) else (some false)) else (some false)) = some true := by rw [if_pos rfl] at H <;> exact H
              exact absurd H1 (by simp)
             ·replace c393 := Bool.eq_false_iff.mpr c393
              subst c393
              have H1 : (some false) = some true := by rw [if_neg (show ¬ (false = true) by decide)] at H <;> exact H
              exact absurd H1 (by simp)
          ·rw [if_neg c27] at H
           have c27b0 : (t366 == 0) = false := beq_eq_false_iff_ne.mpr c27
           have c27b1 : (t366 != 0) = true := bne_iff_ne.mpr c27
           by_cases c460 : t366 = t378
           ·rw [if_pos c460] at H
            have c460b0 : (t366 == t378) = true := beq_iff_eq.mpr c460
            have c460b1 : (t366 != t378) = false := bne_eq_false_iff_eq.mpr c460
            clear c460
            by_cases c461 : t367 = t379
            ·rw [if_pos c461] at H
             have c461b0 : (t367 == t379) = true := beq_iff_eq.mpr c461
             have c461b1 : (t367 != t379) = false := bne_eq_false_iff_eq.mpr c461
             clear c461
             by_cases c462 : t356 = true
             ·subst c462
              rw [if_pos rfl] at H
              by_cases c463 : t372 = 161
              ·rw [if_pos c463] at H
               have c463b0 : (t372 == 161) = true := beq_iff_eq.mpr c463
               have c463b1 : (t372 != 161) = false := bne_eq_false_iff_eq.mpr c463
               clear c463
               by_cases c464 : t384 = 161
               ·rw [if_pos c464] at H
                have c464b0 : (t384 == 161) = true := beq_iff_eq.mpr c464
                have c464b1 : (t384 != 161) = false := bne_eq_false_iff_eq.mpr c464
                clear c464
                by_cases c465 : t368 = t380
                ·rw [if_pos c465] at H
                 have c465b0 : (t368 == t380) = true := beq_iff_eq.mpr c465
                 have c465b1 : (t368 != t380) = false := bne_eq_false_iff_eq.mpr c465
                 clear c465
                 by_cases c466 : (t369.length : Int) ≤ (t381.length : Int)
                 ·rw [if_pos c466] at H
                  have c466b0 : decide ((t369.length : Int) ≤ (t381.length : Int)) = true := decide_eq_true c466
                  have c466b1 : decide (t369.length ≤ t381.length) = true := decide_eq_true (Int.ofNat_le.mp c466)
                  clear c466
                  by_cases c467 : (t381.length : Int) ≤ (l0_3.length : Int)
                  ·rw [if_pos c467] at H
                   have c467b0 : decide ((t381.length : Int) ≤ (l0_3.length : Int)) = true := decide_eq_true c467
                   have c467b1 : decide (t381.length ≤ l0_3.length) = true := decide_eq_true (Int.ofNat_le.mp c467)
                   clear c467
                   by_cases c468 : t378 = 0
                   ·rw [if_pos c468] at H
                    have c468b0 : (t378 == 0) = true := beq_iff_eq.mpr c468
                    have c468b1 : (t378 != 0) = false := bne_eq_false_iff_eq.mpr c468
                    clear c468
                    (have HRT := Aside0.mk (Option.some.inj H); clear H)
                    go_wp2
                    go_ret
                    exact ⟨by first | rfl | (exact congrArg (fun z_ => Ending.returned (Value.bool z_)) HRT.out) | (rw [HRT.out]; done) | (simp [errW_none, errW_some] <;> rfl) | (simp only [← hji19, ← hji23]; first | rfl | (simp [errW_none, errW_some] <;> rfl)) | (simp [*, errW_none, errW_some] <;> rfl), Cz.bl (w := w)⟩
                   ·rw [if_neg c468] at H
                    have c468b0 : (t378 == 0) = false := beq_eq_false_iff_ne.mpr c468
                    have c468b1 : (t378 != 0) = true := bne_iff_ne.mpr c468
                    by_cases c486 : t378 = a0_0
                    ·rw [if_pos c486] at H
                     have c486b0 : (t378 == a0_0) = true := beq_iff_eq.mpr c486
                     have c486b1 : (t378 != a0_0) = false := bne_eq_false_iff_eq.mpr c486
                     clear c486
                     (have HRT := Aside0.mk (Option.some.inj H); clear H)
                     go_wp2
                     go_ret
                     exact ⟨by first | rfl | (exact congrArg (fun z_ => Ending.returned (Value.bool z_)) HRT.out) | (rw [HRT.out]; done) | (simp [errW_none, errW_some] <;> rfl) | (simp only [← hji19, ← hji23]; first | rfl | (simp [errW_none, errW_some] <;> rfl)) | (simp [*, errW_none, errW_some] <;> rfl), Cz.bl (w := w)⟩
                    ·rw [if_neg c486] at H
                     have c486b0 : (t378 == a0_0) = false := beq_eq_false_iff_ne.mpr c486
                     have c486b1 : (t378 != a0_0) = true := bne_iff_ne.mpr c486
                     (have HRT := Aside0.mk (Option.some.inj H); clear H)
                     go_wp2
                     go_ret
                     exact ⟨by first | rfl | (exact congrArg (fun z_ => Ending.returned (Value.bool z_)) HRT.out) | (rw [HRT.out]; done) | (simp [errW_none, errW_some] <;> rfl) | (simp only [← hji19, ← hji23]; first | rfl | (simp [errW_none, errW_some] <;> rfl)) | (simp [*, errW_none, errW_some] <;> rfl), Cz.bl (w := w)⟩
                  ·rw [if_neg c467] at H
                   first | exact absurd H (by simp; done) | skip
                 ·rw [if_neg c466] at H
                  first | exact absurd H (by simp; done) | skip
                ·rw [if_neg c465] at H
                 first | exact absurd H (by simp; done) | skip
               ·rw [if_neg c464] at H
                first | exact absurd H (by simp; done) | skip
              ·rw [if_neg c463] at H
               first | exact absurd H (by simp; done) | skip
             ·replace c462 := Bool.eq_false_iff.mpr c462
              subst c462
              have H1 : (some false) = some true := by rw [if_neg (show ¬ (false = true) by decide)] at H <;> exact H
              exact absurd H1 (by simp)
            ·rw [if_neg c461] at H
             have c461b0 : (t367 == t379) = false := beq_eq_false_iff_ne.mpr c461
             have c461b1 : (t367 != t379) = true := bne_iff_ne.mpr c461
             by_cases c618 : t356 = true
             ·subst c618
              have H1 : (if t372 = 161 then (if t384 = 161 then (some false) else (some false)) else (some false)) = some true := by rw [if_pos rfl] at H <;> exact H
              exact absurd H1 (by simp)
             ·replace c618 := Bool.eq_false_iff.mpr c618
              subst c618
              have H1 : (some false) = some true := by rw [if_neg (show ¬ (false = true) by decide)] at H <;> exact H
              exact absurd H1 (by simp)
           ·rw [if_neg c460] at H
            have c460b0 : (t366 == t378) = false := beq_eq_false_iff_ne.mpr c460
            have c460b1 : (t366 != t378) = true := bne_iff_ne.mpr c460
            by_cases c685 : t356 = true
            ·subst c685
             have H1 : (if t372 = 161 then (if t384 = 161 then (some false) else (some false)) else (some false)) = some true := by rw [if_pos rfl] at H <;> exact H
             exact absurd H1 (by simp)
            ·replace c685 := Bool.eq_false_iff.mpr c685
             subst c685
             have H1 : (some false) = some true := by rw [if_neg (show ¬ (false = true) by decide)] at H <;> exact H
             exact absurd H1 (by simp)
         ·rw [if_neg c25] at H
          exact absurd H (by simp)
        ·rw [if_neg c24] at H
         exact absurd H (by simp)
       ·rw [if_neg c21] at H
        exact absurd H (by simp)
      ·rw [if_neg c20] at H
       exact absurd H (by simp)
end Go.Proofs.Ytohkmmbmfhficaa.PO
