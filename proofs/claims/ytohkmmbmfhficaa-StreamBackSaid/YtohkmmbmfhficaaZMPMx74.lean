/- Words and walks that this claim names, of those that the kit's print and programs of this workplace have printed. -/
import Derived.Test.YtohkmmbmfhficaaZMCz
import Derived.Test.YtohkmmbmfhficaaZMPMx5
import Derived.Test.YtohkmmbmfhficaaZMPMx55
import Derived.Test.YtohkmmbmfhficaaZMPMx62
import Derived.Test.YtohkmmbmfhficaaZMPMx68
import Derived.Test.YtohkmmbmfhficaaZMPMx73
namespace Go.Proofs.Ytohkmmbmfhficaa.PM
open Go.Proofs.Ytohkmmbmfhficaa Go.RowKit Go.Proofs.YtohkmmbmfhficaaW.PrintWords Go.Proofs.YtohkmmbmfhficaaW.PrintLast Go.Proofs.YtohkmmbmfhficaaW.PrintMore
attribute [local go_sem] max2_int min2_int max_two min_two max_three min_three max_four min_four
set_option linter.unusedVariables false
set_option linter.unusedSimpArgs false
mutual
def waggonerlaw17_StreamBack.j0 : Nat → List Int → Int → Bool → Bool → Int → Int → Int → List (S36) → Option (Bool)
 | 0, _, _, _, _, _, _, _, _ => none
 | k + 1, x1, x2, x7, x29, x296000, x296001, x296002, x296003 => if x29 = true then (some x7) else ((stream_Write.f x296000 x296001 x296002 x296003).bind fun bt298 => (if bt298.2 = 0 then (if (bt298.1.length : Int) < 29 then (some false) else ((stream_Read.f bt298.1).bind fun bt302 => (if (bt298.1.length : Int) = 0 then (none) else (if 0 ≤ (Int.tmod (wrap64 (x2)) (bt298.1.length : Int)) then (if (Int.tmod (wrap64 (x2)) (bt298.1.length : Int)) ≤ (bt298.1.length : Int) then ((stream_Begin.f (bt298.1.take ((Int.tmod (wrap64 (x2)) (bt298.1.length : Int)) : Int).toNat)).bind fun bt314 => ((some (([] : List Int) : List Int)).bind fun y322 => (if y322.length + bt298.1.length < 140737488355328 then ((some (y322 ++ bt298.1 : List Int)).bind fun y325 => (if y325.length < 140737488355328 then ((stream_Read.f (y325 ++ [0])).bind fun bt331 => ((waggonerref17_Same.f x296000 x296001 x296002 x296003 bt302.1 bt302.2.1 bt302.2.2.1 bt302.2.2.2.1).bind fun t339 => (if t339 = true then (if bt302.2.2.2.2 = 0 then (if bt314.2.2.2.2 = 161 then (if bt331.2.2.2.2 = 170 then (waggonerlaw17_StreamBack.j1 k x1 x7 bt298.2 x296000 x296001 x296002 x296003) else (some false)) else (some false)) else (some false)) else (some false)))) else (none))) else (none)))) else (none)) else (none))))) else (waggonerlaw17_StreamBack.j1 k x1 x7 bt298.2 x296000 x296001 x296002 x296003)))
def waggonerlaw17_StreamBack.j1 : Nat → List Int → Bool → Int → Int → Int → Int → List (S36) → Option (Bool)
 | 0, _, _, _, _, _, _, _ => none
 | k + 1, x1, x7, x9, x296000, x296001, x296002, x296003 => (stream_Read.f x1).bind fun bt340 => ((stream_Write.f bt340.1 bt340.2.1 bt340.2.2.1 bt340.2.2.2.1).bind fun bt348 => (if x7 = true then ((stream_Check.f x296000 x296001 x296002 x296003).bind fun t352 => (if ((x9 == 0) == t352) = true then (if bt340.2.2.2.2 = 0 then ((stream_Check.f bt340.1 bt340.2.1 bt340.2.2.1 bt340.2.2.2.1).bind fun t353 => (if t353 = true then (if bt348.2 = 0 then (some ((strOfNums bt348.1).toList == (strOfNums x1).toList)) else (some false)) else (some false))) else (if bt340.1 = 0 then (some true) else ((stream_Check.f bt340.1 bt340.2.1 bt340.2.2.1 bt340.2.2.2.1).bind fun t354 => (if t354 = true then (if bt348.2 = 0 then (some ((strOfNums bt348.1).toList == (strOfNums x1).toList)) else (some false)) else (some false))))) else (some false))) else (some false)))
end
def waggonerlaw17_StreamBack.f (k : Nat) (a0_0 : Int) (a0_1 : Int) (a0_2 : Int) (l0_3 : List (S36)) (l1 : List Int) (a2 : Int) : Option (Bool) := (waggonerlaw17_awake.f).bind fun t296 => ((waggonerlaw17_few.f a0_0 a0_1 a0_2 l0_3).bind fun t297 => (if t297 = true then (waggonerlaw17_StreamBack.j0 k l1 a2 t296 (decide ((l1.length : Int) > 5000)) a0_0 a0_1 a0_2 l0_3) else (waggonerlaw17_StreamBack.j0 k l1 a2 t296 true a0_0 a0_1 a0_2 l0_3)))
set_option maxHeartbeats 8000000 in
set_option maxRecDepth 100000 in
theorem waggonerlaw17_StreamBack.calls (k : Nat) (a0_0 : Int) (a0_1 : Int) (a0_2 : Int) (A0_3 : Option Addr) (c0_3 : Nat) (l0_3 : List (S36)) (A1 : Option Addr) (c1 : Nat) (l1 : List Int) (a2 : Int) (r : Bool) (hT : r = true) (w : World) (hr0_3 : Kd.C k36 w A0_3 l0_3.length l0_3) (hc0_3 : l0_3.length ≤ c0_3) (hr1 : Kd.C (Kd.int .u8) w A1 l1.length l1) (hc1 : l1.length ≤ c1) (h : waggonerlaw17_StreamBack.f k a0_0 a0_1 a0_2 l0_3 l1 a2 = some r) :
  Calls Try.prog 12 #[.agg #[.int .i64 a0_0, .int .i64 a0_1, .int .i64 a0_2, .slice A0_3 l0_3.length c0_3], .slice A1 l1.length c1, .int .u16 a2] w fun e w' => e = .returned (.bool r) ∧ Below w.heap.size w w' := by
 subst hT
 have hu24 := Try.underlying24
 have HR0_3 := Aside0.mk hr0_3
 have HC0_3 := Aside0.mk hc0_3
 clear hr0_3 hc0_3
 have HR1 := Aside0.mk hr1
 have HC1 := Aside0.mk hc1
 clear hr1 hc1
 have HB := Aside0.mk (Below.refl w.heap.size w)
 have H : ((waggonerlaw17_awake.f).bind fun t296 => ((waggonerlaw17_few.f a0_0 a0_1 a0_2 l0_3).bind fun t297 => (if t297 = true then (waggonerlaw17_StreamBack.j0 k l1 a2 t296 (decide ((l1.length : Int) > 5000)) a0_0 a0_1 a0_2 l0_3) else (waggonerlaw17_StreamBack.j0 k l1 a2 t296 true a0_0 a0_1 a0_2 l0_3)))) = some true := h
 clear h
 replace H := Option.bind_eq_some_iff.mp H
 obtain ⟨t296, A40, H⟩ := H
 (try dsimp only at H)
 have A4 := Aside0.mk A40
 clear A40
 have HC5 := Aside0.mk H
 clear H
 go_enter Try.func12, Try.ntmps12
 go_upto_region 2 with (first | ((with_reducible refine gate_dst (N := 3) rfl ?_); (try (refine gate_guard (by rfl) ?_; dsimp only)); refine Cz.bx (N := 3) #[.int .i64 a0_0, .int .i64 a0_1, .int .i64 a0_2, .slice A0_3 l0_3.length c0_3] 24 ?_; intro gb295 hg w6 hbox hb; have BK295 := Aside0.mk (hbox); have GW295 := Aside0.mk ((Cz.gs hg : w.heap.size ≤ gb295)); have GE295 := GW295; replace HB := Cz.bs (w := w) hb; clear hb hbox hg) | ((with_reducible refine gate_callee (f := 14) rfl ?_); refine Cz.gL (N := (some 21)) Try.func14 #[] ?_; (with_reducible refine (waggonerlaw17_awake.calls  t296 _ A4.out).mono ?_); rintro e w7 ⟨rfl, hb⟩; refine ⟨_, rfl, ?_⟩; replace BK295 := Cz.bk BK295 hb; replace HB := Cz.bs (w := w) hb; (try clear hb)))
 (try simp only [Act.put, Kx.sb, Kx.sz, Kx.ss])
 go_cut [29] (fun v29 wc => ∃ (kq : Nat) (x29_4 : Bool), v29 = .bool x29_4 ∧ Aside0 (waggonerlaw17_StreamBack.j0 kq l1 a2 t296 x29_4 a0_0 a0_1 a0_2 l0_3 = some true) ∧ Aside0 (kq ≤ k) ∧ Aside0 (wc.heap[gb295]? = some (.cells #[.int .i64 a0_0, .int .i64 a0_1, .int .i64 a0_2, (.slice A0_3 l0_3.length c0_3)] 24 (0, 0))) ∧ Aside0 (Below w.heap.size w wc))
 case first =>
  have H := HC5.out
  clear HC5
  replace H := Option.bind_eq_some_iff.mp H
  obtain ⟨t297, A80, H⟩ := H
  (try dsimp only at H)
  have A8 := Aside0.mk A80
  clear A80
  by_cases c9 : t297 = true
  ·subst c9
   rw [if_pos rfl] at H
   have H' := Aside0.mk H
   clear H
   obtain ⟨z10_0, z10_1, z10_2, z10_3, y10_0, y10_1, y10_2, y10_3⟩ := Cz.d4 BK295
   go_wp2_with (first | ((with_reducible refine gate_callee (f := 16) rfl ?_); refine Cz.gL (N := (some 23)) Try.func16 #[.agg #[.int .i64 a0_0, .int .i64 a0_1, .int .i64 a0_2, .slice A0_3 l0_3.length c0_3]] ?_; (with_reducible refine (waggonerlaw17_few.calls a0_0 a0_1 a0_2 _ _ l0_3 true _ ?side1 ?side2 A8.out).mono ?_); (case side1 => exact Cz.cb HR0_3); (case side2 => exact HC0_3.out); rintro e w11 ⟨rfl, hb⟩; refine ⟨_, rfl, ?_⟩; replace BK295 := Cz.bk BK295 hb; replace HB := Cz.bs (w := w) hb; (try clear hb)))
   go_meet
   case rel => exact ⟨_, (decide ((l1.length : Int) > 5000)), Cz.si, H', ⟨by first | omega | exact Nat.le_refl _⟩, ⟨by (with_reducible repeat (first | refine blk_drewN ?_ _ | refine blk_drew ?_ | refine blk_alloc ?_ _)); exact BK295.out⟩, ⟨Cz.bl (w := w)⟩⟩
  ·replace c9 := Bool.eq_false_iff.mpr c9
   subst c9
   rw [if_neg (show ¬ (false = true) by decide)] at H
   have H' := Aside0.mk H
   clear H
   obtain ⟨z12_0, z12_1, z12_2, z12_3, y12_0, y12_1, y12_2, y12_3⟩ := Cz.d4 BK295
   go_wp2_with (first | ((with_reducible refine gate_callee (f := 16) rfl ?_); refine Cz.gL (N := (some 23)) Try.func16 #[.agg #[.int .i64 a0_0, .int .i64 a0_1, .int .i64 a0_2, .slice A0_3 l0_3.length c0_3]] ?_; (with_reducible refine (waggonerlaw17_few.calls a0_0 a0_1 a0_2 _ _ l0_3 false _ ?side1 ?side2 A8.out).mono ?_); (case side1 => exact Cz.cb HR0_3); (case side2 => exact HC0_3.out); rintro e w13 ⟨rfl, hb⟩; refine ⟨_, rfl, ?_⟩; replace BK295 := Cz.bk BK295 hb; replace HB := Cz.bs (w := w) hb; (try clear hb)))
   go_meet
   case rel => exact ⟨_, (true), Cz.si, H', ⟨by first | omega | exact Nat.le_refl _⟩, ⟨by (with_reducible repeat (first | refine blk_drewN ?_ _ | refine blk_drew ?_ | refine blk_alloc ?_ _)); exact BK295.out⟩, ⟨Cz.bl (w := w)⟩⟩
 case rest =>
  clear HC5
  try clear c1
  try clear p2
  try clear c9
  try clear c12
  try clear z10_0 z10_1 z10_2 z10_3 y10_0 y10_1 y10_2 y10_3
  try clear z12_0 z12_1 z12_2 z12_3 y12_0 y12_1 y12_2 y12_3
  obtain ⟨kq, x29_4, rfl, HA, HJ4, BK295, HB⟩ := hcut
  cases kq with
  | zero => exact absurd HA.out (by simp [waggonerlaw17_StreamBack.j0])
  | succ kj4 =>
   have H := HA.out
   clear HA
   simp only [waggonerlaw17_StreamBack.j0] at H
   by_cases c14 : x29_4 = true
   ·subst c14
    rw [if_pos rfl] at H
    (have HRT := Aside0.mk (Option.some.inj H); clear H)
    go_wp2
    go_ret
    exact ⟨by first | rfl | (exact congrArg (fun z_ => Ending.returned (Value.bool z_)) HRT.out) | (rw [HRT.out]; done) | (simp [errW_none, errW_some] <;> rfl) | (simp [*, errW_none, errW_some] <;> rfl), Cz.bl (w := w)⟩
   ·replace c14 := Bool.eq_false_iff.mpr c14
    subst c14
    rw [if_neg (show ¬ (false = true) by decide)] at H
    replace H := Option.bind_eq_some_iff.mp H
    obtain ⟨⟨t298, t301⟩, A150, H⟩ := H
    (try dsimp only at H)
    have A15 := Aside0.mk A150
    clear A150
    have HC16 := Aside0.mk H
    clear H
    obtain ⟨z17_0, z17_1, z17_2, z17_3, y17_0, y17_1, y17_2, y17_3⟩ := Cz.d4 BK295
    go_upto_if 37 with (first | ((with_reducible refine gate_callee (f := 15) rfl ?_); refine Cz.gL (N := (some 33)) Try.func15 #[.agg #[.int .i64 a0_0, .int .i64 a0_1, .int .i64 a0_2, .slice A0_3 l0_3.length c0_3]] ?_; (with_reducible refine (stream_Write.calls a0_0 a0_1 a0_2 _ _ l0_3 t298 t301 _ ?side1 ?side2 A15.out).mono ?_); (case side1 => exact Cz.cb HR0_3); (case side2 => exact HC0_3.out); rintro e w18 ⟨v299, rfl, ho0, hb⟩; refine ⟨_, rfl, ?_⟩; have HO300 := Aside0.mk (Kd.R_lower ho0 (below_size (Cz.bl (w := w)))); replace BK295 := Cz.bk BK295 hb; replace HB := Cz.bs (w := w) hb; (try clear hb); (try clear ho0)))
    (try simp only [Act.put, Kx.sb, Kx.sz, Kx.ss])
    go_cut [] (fun wc => ∃ (kq : Nat), Aside0 (waggonerlaw17_StreamBack.j1 kq l1 t296 t301 a0_0 a0_1 a0_2 l0_3 = some true) ∧ Aside0 (kq ≤ kj4) ∧ Aside0 (wc.heap[gb295]? = some (.cells #[.int .i64 a0_0, .int .i64 a0_1, .int .i64 a0_2, (.slice A0_3 l0_3.length c0_3)] 24 (0, 0))) ∧ Aside0 (Below w.heap.size w wc))
    case first =>
     have H := HC16.out
     clear HC16
     by_cases c19 : t301 = 0
     ·rw [if_pos c19] at H
      have c19b0 : (t301 == 0) = true := beq_iff_eq.mpr c19
      have c19b1 : (t301 != 0) = false := bne_eq_false_iff_eq.mpr c19
      clear c19
      (first | rw [c19b0] | (simp only [i64_w, i32_w]; rw [c19b0]) | skip)
      by_cases c20 : (t298.length : Int) < 29
      ·rw [if_pos c20] at H
       have c20b0 : decide ((t298.length : Int) < 29) = true := decide_eq_true c20
       have c20b1 : decide (t298.length < 29) = true := decide_eq_true (by omega)
       clear c20
       (have HRT := Aside0.mk (Option.some.inj H); clear H)
       obtain ⟨Ao21, co21, eo21⟩ := Kd.R_slice HO300.out
       subst eo21
       go_wp2
       go_ret
       exact ⟨by first | rfl | (exact congrArg (fun z_ => Ending.returned (Value.bool z_)) HRT.out) | (rw [HRT.out]; done) | (simp [errW_none, errW_some] <;> rfl) | (simp [*, errW_none, errW_some] <;> rfl), Cz.bl (w := w)⟩
      ·rw [if_neg c20] at H
       have c20b0 : decide ((t298.length : Int) < 29) = false := decide_eq_false c20
       have c20b1 : decide (t298.length < 29) = false := decide_eq_false (by omega)
       clear c20
       replace H := Option.bind_eq_some_iff.mp H
       obtain ⟨⟨t302, t303, t304, t305, t308⟩, A220, H⟩ := H
       (try dsimp only at H)
       have A22 := Aside0.mk A220
       clear A220
       by_cases c23 : (t298.length : Int) = 0
       ·rw [if_pos c23] at H
        exact absurd H (by simp)
       ·rw [if_neg c23] at H
        have c23b0 : ((t298.length : Int) == 0) = false := beq_eq_false_iff_ne.mpr c23
        have c23b1 : ((t298.length : Int) != 0) = true := bne_iff_ne.mpr c23
        have c23b2 : ¬ (t298 = []) := fun h_ => c23 (by rw [h_]; rfl)
        obtain ⟨ji24, hji24⟩ : ∃ j_ : Int, (Int.tmod (wrap64 (a2)) (t298.length : Int)) = j_ := ⟨_, rfl⟩
        replace H : (if 0 ≤ (ji24) then (if (ji24) ≤ (t298.length : Int) then ((stream_Begin.f (t298.take ((ji24) : Int).toNat)).bind fun bt314 => ((some (([] : List Int) : List Int)).bind fun y322 => (if y322.length + t298.length < 140737488355328 then ((some (y322 ++ t298 : List Int)).bind fun y325 => (if y325.length < 140737488355328 then ((stream_Read.f (y325 ++ [0])).bind fun bt331 => ((waggonerref17_Same.f a0_0 a0_1 a0_2 l0_3 t302 t303 t304 t305).bind fun t339 => (if t339 = true then (if t308 = 0 then (if bt314.2.2.2.2 = 161 then (if bt331.2.2.2.2 = 170 then (waggonerlaw17_StreamBack.j1 kj4 l1 t296 t301 a0_0 a0_1 a0_2 l0_3) else (some false)) else (some false)) else (some false)) else (some false)))) else (none))) else (none)))) else (none)) else (none)) = some true := by first | (rw [hji24] at H; exact H) | (simp only [hji24] at H ⊢; exact H)
        (try rw [hji24] at A22)
        by_cases c25 : 0 ≤ (ji24)
        ·rw [if_pos c25] at H
         have c25b0 := eq_true c25
         have c25b1 : decide (0 ≤ (ji24)) = true := decide_eq_true c25
         clear c25
         by_cases c26 : (ji24) ≤ (t298.length : Int)
         ·rw [if_pos c26] at H
          have c26b0 := eq_true c26
          have c26b1 : decide ((ji24) ≤ (t298.length : Int)) = true := decide_eq_true c26
          clear c26
          obtain ⟨y310, hy310⟩ : ∃ y_ : List Int, y_ = (t298.take ((ji24) : Int).toNat) := ⟨_, rfl⟩
          replace H : ((stream_Begin.f y310).bind fun bt314 => ((some (([] : List Int) : List Int)).bind fun y322 => (if y322.length + t298.length < 140737488355328 then ((some (y322 ++ t298 : List Int)).bind fun y325 => (if y325.length < 140737488355328 then ((stream_Read.f (y325 ++ [0])).bind fun bt331 => ((waggonerref17_Same.f a0_0 a0_1 a0_2 l0_3 t302 t303 t304 t305).bind fun t339 => (if t339 = true then (if t308 = 0 then (if bt314.2.2.2.2 = 161 then (if bt331.2.2.2.2 = 170 then (waggonerlaw17_StreamBack.j1 kj4 l1 t296 t301 a0_0 a0_1 a0_2 l0_3) else (some false)) else (some false)) else (some false)) else (some false)))) else (none))) else (none)))) = some true := by first | (rw [hy310]; with_reducible exact H) | (have H2_ := (Option.bind_some _ _).symm.trans H; rw [hy310]; with_reducible exact H2_) | (have H2_ := (Option.bind_some _ _).symm.trans H; with_reducible exact H2_) | with_reducible exact H | (rw [hy310]; exact H) | exact H
          have Ny310 := Aside0.mk hy310
          clear hy310
          replace H := Option.bind_eq_some_iff.mp H
          obtain ⟨⟨t314, t315, t316, t317, t320⟩, A270, H⟩ := H
          (try dsimp only at H)
          have A27 := Aside0.mk A270
          clear A270
          obtain ⟨y322, hy322⟩ : ∃ y_ : List Int, y_ = (([] : List Int)) := ⟨_, rfl⟩
          replace H : (if y322.length + t298.length < 140737488355328 then ((some (y322 ++ t298 : List Int)).bind fun y325 => (if y325.length < 140737488355328 then ((stream_Read.f (y325 ++ [0])).bind fun bt331 => ((waggonerref17_Same.f a0_0 a0_1 a0_2 l0_3 t302 t303 t304 t305).bind fun t339 => (if t339 = true then (if t308 = 0 then (if t320 = 161 then (if bt331.2.2.2.2 = 170 then (waggonerlaw17_StreamBack.j1 kj4 l1 t296 t301 a0_0 a0_1 a0_2 l0_3) else (some false)) else (some false)) else (some false)) else (some false)))) else (none))) else (none)) = some true := by first | (rw [hy322]; with_reducible exact H) | (have H2_ := (Option.bind_some _ _).symm.trans H; rw [hy322]; with_reducible exact H2_) | (have H2_ := (Option.bind_some _ _).symm.trans H; with_reducible exact H2_) | with_reducible exact H | (rw [hy322]; exact H) | exact H
          have Ny322 := Aside0.mk hy322
          clear hy322
          by_cases c28 : y322.length + t298.length < 140737488355328
          ·rw [if_pos c28] at H
           have LMc28 := Aside0.mk c28
           clear c28
           obtain ⟨y325, hy325⟩ : ∃ y_ : List Int, y_ = (y322 ++ t298) := ⟨_, rfl⟩
           replace H : (if y325.length < 140737488355328 then ((stream_Read.f (y325 ++ [0])).bind fun bt331 => ((waggonerref17_Same.f a0_0 a0_1 a0_2 l0_3 t302 t303 t304 t305).bind fun t339 => (if t339 = true then (if t308 = 0 then (if t320 = 161 then (if bt331.2.2.2.2 = 170 then (waggonerlaw17_StreamBack.j1 kj4 l1 t296 t301 a0_0 a0_1 a0_2 l0_3) else (some false)) else (some false)) else (some false)) else (some false)))) else (none)) = some true := by first | (rw [hy325]; with_reducible exact H) | (have H2_ := (Option.bind_some _ _).symm.trans H; rw [hy325]; with_reducible exact H2_) | (have H2_ := (Option.bind_some _ _).symm.trans H; with_reducible exact H2_) | with_reducible exact H | (rw [hy325]; exact H) | exact H
           have Ny325 := Aside0.mk hy325
           clear hy325
           by_cases c29 : y325.length < 140737488355328
           ·rw [if_pos c29] at H
            have LMc29 := Aside0.mk c29
            clear c29
            obtain ⟨y328, hy328⟩ : ∃ y_ : List Int, y_ = (y325 ++ [0]) := ⟨_, rfl⟩
            replace H : ((stream_Read.f y328).bind fun bt331 => ((waggonerref17_Same.f a0_0 a0_1 a0_2 l0_3 t302 t303 t304 t305).bind fun t339 => (if t339 = true then (if t308 = 0 then (if t320 = 161 then (if bt331.2.2.2.2 = 170 then (waggonerlaw17_StreamBack.j1 kj4 l1 t296 t301 a0_0 a0_1 a0_2 l0_3) else (some false)) else (some false)) else (some false)) else (some false)))) = some true := by first | (rw [hy328]; with_reducible exact H) | (have H2_ := (Option.bind_some _ _).symm.trans H; rw [hy328]; with_reducible exact H2_) | (have H2_ := (Option.bind_some _ _).symm.trans H; with_reducible exact H2_) | with_reducible exact H | (rw [hy328]; exact H) | exact H
            have Ny328 := Aside0.mk hy328
            clear hy328
            replace H := Option.bind_eq_some_iff.mp H
            obtain ⟨⟨t331, t332, t333, t334, t337⟩, A300, H⟩ := H
            (try dsimp only at H)
            have A30 := Aside0.mk A300
            clear A300
            replace H := Option.bind_eq_some_iff.mp H
            obtain ⟨t339, A310, H⟩ := H
            (try dsimp only at H)
            have A31 := Aside0.mk A310
            clear A310
            by_cases c32 : t339 = true
            ·subst c32
             rw [if_pos rfl] at H
             by_cases c33 : t308 = 0
             ·rw [if_pos c33] at H
              have c33b0 : (t308 == 0) = true := beq_iff_eq.mpr c33
              have c33b1 : (t308 != 0) = false := bne_eq_false_iff_eq.mpr c33
              clear c33
              by_cases c34 : t320 = 161
              ·rw [if_pos c34] at H
               have c34b0 : (t320 == 161) = true := beq_iff_eq.mpr c34
               have c34b1 : (t320 != 161) = false := bne_eq_false_iff_eq.mpr c34
               clear c34
               by_cases c35 : t337 = 170
               ·rw [if_pos c35] at H
                have c35b0 : (t337 == 170) = true := beq_iff_eq.mpr c35
                have c35b1 : (t337 != 170) = false := bne_eq_false_iff_eq.mpr c35
                clear c35
                have H' := Aside0.mk H
                clear H
                obtain ⟨Ao36, co36, eo36⟩ := Kd.R_slice HO300.out
                subst eo36
                go_wp2_with (first | ((with_reducible refine gate_callee (f := 28) rfl ?_); refine Cz.gL (N := (some 43)) Try.func28 #[.slice Ao36 t298.length co36] ?_; (with_reducible refine (stream_Read.calls _ _ t298 t302 t303 t304 t305 t308 _ ?side1 ?side2 A22.out).mono ?_); (case side1 => repeat (first | exact (Kd.R_reads' HO300.out).2.2 | (with_reducible refine Kd.C_alloc ?_ _) | (with_reducible refine Kd.C_drewN ?_ _) | (with_reducible refine Kd.C_drew ?_))); (case side2 => exact (Kd.R_reads' HO300.out).2.1); rintro e w37 ⟨v306, rfl, ho0, hb⟩; refine ⟨_, rfl, ?_⟩; have HO307 := Aside0.mk (Kd.R_lower (Kd.R_new' ho0 (Kd.R_lt (by (with_reducible repeat (first | apply Kd.R_alloc | apply Kd.R_drewN | apply Kd.R_drew)); exact HO300.out))) (below_size (Cz.bl (w := w)))); replace HO300 := Cz.rb HO300 hb; replace BK295 := Cz.bk BK295 hb; replace HB := Cz.bs (w := w) hb; (try clear hb); (try clear ho0)) | ((with_reducible refine gate_dst (N := 10) rfl ?_); (try (refine gate_guard (by rfl) ?_; dsimp only)); refine Cz.bx (N := 10) #[.int .i64 0, .int .i64 0, .int .i64 0, .slice none 0 0] 24 ?_; intro gb309 hg w38 hbox hb; have BK309 := Aside0.mk (hbox); have GW309 := Aside0.mk ((Cz.gs hg : w.heap.size ≤ gb309)); have GE309 := GW309; have NB295_309 := Aside0.mk ((Cz.nl BK295 hg : gb295 ≠ gb309)); have NB309_295 := Aside0.mk ((Cz.nr BK295 hg : gb309 ≠ gb295)); replace HO300 := Cz.rb HO300 hb; replace HO307 := Cz.rb HO307 hb; replace BK295 := Cz.bk BK295 hb; replace HB := Cz.bs (w := w) hb; clear hb hbox hg; have hnb39 := NB309_295.out; have hnc39 := NB295_309.out; obtain ⟨z40_0, z40_1, z40_2, z40_3, y40_0, y40_1, y40_2, y40_3⟩ := Cz.d4 BK309; obtain ⟨Ao41, co41, eo41⟩ := Kd.R_slice HO307.out; subst eo41) | ((with_reducible refine gate_store (t := 24) (p := 10) rfl ?_); refine store_event (t := 24) (p := 10) (v := ?vo_w42) (w1 := ((((w38.setCell ⟨gb309, 0, none⟩ (.int .i64 t302)).setCell ⟨gb309, 1, none⟩ (.int .i64 t303)).setCell ⟨gb309, 2, none⟩ (.int .i64 t304)).setCell ⟨gb309, 3, none⟩ (.slice Ao41 t305.length co41))) ?hg ?ho ?hn ?hr ?_; (case ho => rfl); (case hg => rfl); (case hn => rfl); (case hr => first | (go_simp; done) | (go_simp; rfl)); intro w42 hw; have n0_ : Aside0 (Kd.R (Kd.int .u8) 5 w42 w.heap.size (fun _ => True) (.slice Ao36 t298.length co36) t298) := ⟨(by rw [hw]; exact (by (with_reducible repeat (first | apply Kd.R_alloc | apply Kd.R_drewN | apply Kd.R_drew)); exact Kd.R_mono (Cz.rf (Cz.rf (Cz.rf (Cz.rf (Kd.R_types HO300.out BK309.out (by decide)))))) (fun _ hk => trivial)))⟩; have n1_ : Aside0 (Kd.R k36 36 w42 w.heap.size (fun k_ => some k_ ≠ (.slice Ao36 t298.length co36 : Value).ownBlock) (.slice Ao41 t305.length co41) t305) := ⟨(by rw [hw]; exact (by (with_reducible repeat (first | apply Kd.R_alloc | apply Kd.R_drewN | apply Kd.R_drew)); exact Kd.R_mono (Cz.rf (Cz.rf (Cz.rf (Cz.rf (Kd.R_types HO307.out BK309.out (by decide)))))) (fun _ hk => hk.1.2)))⟩; have n2_ : Aside0 (w42.heap[gb295]? = some (.cells #[.int .i64 a0_0, .int .i64 a0_1, .int .i64 a0_2, .slice A0_3 l0_3.length c0_3] 24 (0, 0))) := ⟨(by rw [hw]; exact (by (with_reducible repeat (first | refine blk_drewN ?_ _ | refine blk_drew ?_ | refine blk_alloc ?_ _)); refine blk_far ?_ NB295_309.out _; refine blk_far ?_ NB295_309.out _; refine blk_far ?_ NB295_309.out _; refine blk_far ?_ NB295_309.out _; (with_reducible repeat (first | refine blk_drewN ?_ _ | refine blk_drew ?_ | refine blk_alloc ?_ _)); exact BK295.out))⟩; have n3_ : Aside0 (w42.heap[gb309]? = some (.cells #[.int .i64 t302, .int .i64 t303, .int .i64 t304, .slice Ao41 t305.length co41] 24 (0, 0))) := ⟨(by rw [hw]; exact (by (with_reducible repeat (first | refine blk_drewN ?_ _ | refine blk_drew ?_ | refine blk_alloc ?_ _)); apply Cz.a4; (with_reducible repeat (first | refine blk_drewN ?_ _ | refine blk_drew ?_ | refine blk_alloc ?_ _)); exact BK309.out))⟩; have n4_ : Aside0 (Below w.heap.size w w42) := ⟨(by rw [hw]; exact (Cz.bl (w := w)))⟩; clear hw; clear HO300; clear HO307; clear BK295; clear BK309; clear HB; have HO300 := n0_; have HO307 := n1_; have BK295 := n2_; have BK309 := n3_; have HB := n4_; clear n0_ n1_ n2_ n3_ n4_; have q43 : ((ji24) : Int) ≤ ((t298.length : Int) : Int) := of_decide_eq_true (by first | (with_reducible assumption) | assumption); obtain ⟨i043, hi043, _, hsz43, _⟩ := info_parts info5; have hroom43 : t298.length ≤ co36 := (Kd.R_reads' HO300.out).2.1; have hC43 : Kd.C (Kd.int .u8) _ Ao36 t298.length t298 := (Kd.R_reads' HO300.out).2.2; have hcut43 := cut_to (P := Try.prog) 27 5 .i64 Try.underlying27 hi043 Ao36 t298.length co36 (ji24) (of_decide_eq_true (by first | (with_reducible assumption) | assumption)) q43 hroom43; have hr43 := Kd.C_take (m := ((ji24) : Int).toNat) hC43 (by omega); have hy43 : y310.length = ((ji24) : Int).toNat := (by rw [Ny310.out, List.length_take]; omega); rw [← Ny310.out] at hr43; rw [← hy43] at hcut43; have HR313 := Aside0.mk hr43; have HC313 := Aside0.mk (show y310.length ≤ co36 from by omega); clear hr43 hC43 hroom43 hi043 hsz43; have KY43 := Aside0.mk hy43; clear hy43; have KL43 := Aside0.mk (show ((ji24) : Int).toNat ≤ t298.length from by omega); replace q43 := eq_true q43) | ((with_reducible refine gate_callee (f := 17) rfl ?_); refine Cz.gL (N := (some 54)) Try.func17 #[.slice Ao36 y310.length co36] ?_; (with_reducible refine (stream_Begin.calls _ _ y310 t314 t315 t316 t317 t320 _ ?side1 ?side2 A27.out).mono ?_); (case side1 => repeat (first | exact (by repeat (first | (with_reducible exact HR313.out) | (with_reducible refine Kd.C_alloc ?_ _) | (with_reducible refine Kd.C_drewN ?_ _) | (with_reducible refine Kd.C_drew ?_) | exact HR313.out)) | (with_reducible refine Kd.C_alloc ?_ _) | (with_reducible refine Kd.C_drewN ?_ _) | (with_reducible refine Kd.C_drew ?_))); (case side2 => exact HC313.out); rintro e w44 ⟨v318, rfl, ho0, hb⟩; refine ⟨_, rfl, ?_⟩; have HO319 := Aside0.mk (Kd.R_lower (Kd.R_new' (Kd.R_new' ho0 (Kd.R_lt (by (with_reducible repeat (first | apply Kd.R_alloc | apply Kd.R_drewN | apply Kd.R_drew)); exact HO300.out))) (Kd.R_lt (by (with_reducible repeat (first | apply Kd.R_alloc | apply Kd.R_drewN | apply Kd.R_drew)); exact HO307.out))) (below_size (Cz.bl (w := w)))); replace HO300 := Cz.rb HO300 hb; replace HO307 := Aside0.mk (Kd.R_elder' (Cz.rq HO307) (Kd.R_base ho0) hb); replace BK295 := Cz.bk BK295 hb; replace BK309 := Cz.bk BK309 hb; replace HR313 := Aside0.mk (Kd.C_below (by repeat (first | (with_reducible exact HR313.out) | (with_reducible refine Kd.C_alloc ?_ _) | (with_reducible refine Kd.C_drewN ?_ _) | (with_reducible refine Kd.C_drew ?_) | exact HR313.out)) hb); replace HB := Cz.bs (w := w) hb; (try clear hb); (try clear ho0)) | ((with_reducible refine gate_dst (N := 12) rfl ?_); (try (refine gate_guard (by rfl) ?_; dsimp only)); refine Cz.bx (N := 12) #[.int .i64 0, .int .i64 0, .int .i64 0, .slice none 0 0] 24 ?_; intro gb321 hg w45 hbox hb; have BK321 := Aside0.mk (hbox); have GW321 := Aside0.mk ((Cz.gs hg : w.heap.size ≤ gb321)); have GE321 := GW321; have NB295_321 := Aside0.mk ((Cz.nl BK295 hg : gb295 ≠ gb321)); have NB321_295 := Aside0.mk ((Cz.nr BK295 hg : gb321 ≠ gb295)); have NB309_321 := Aside0.mk ((Cz.nl BK309 hg : gb309 ≠ gb321)); have NB321_309 := Aside0.mk ((Cz.nr BK309 hg : gb321 ≠ gb309)); replace HO300 := Cz.rb HO300 hb; replace HO307 := Cz.rb HO307 hb; replace HO319 := Cz.rb HO319 hb; replace BK295 := Cz.bk BK295 hb; replace BK309 := Cz.bk BK309 hb; replace HR313 := Aside0.mk (Kd.C_below (by repeat (first | (with_reducible exact HR313.out) | (with_reducible refine Kd.C_alloc ?_ _) | (with_reducible refine Kd.C_drewN ?_ _) | (with_reducible refine Kd.C_drew ?_) | exact HR313.out)) hb); replace HB := Cz.bs (w := w) hb; clear hb hbox hg; have hnb46 := NB321_295.out; have hnc46 := NB295_321.out; have hnb47 := NB321_309.out; have hnc47 := NB309_321.out; obtain ⟨z48_0, z48_1, z48_2, z48_3, y48_0, y48_1, y48_2, y48_3⟩ := Cz.d4 BK321; obtain ⟨Ao49, co49, eo49⟩ := Kd.R_slice HO319.out; subst eo49) | ((with_reducible refine gate_dst (N := 58) rfl ?_); (try (refine gate_guard (by rfl) ?_; dsimp only)); refine Kd.R_lit (Kd.int .u8) _ 5 ?hg (N := 58) ?hd (xs := ([] : List Int)) (inner := []) (ok := fun _ => True) (okp := fun _ => True) ?hr ?hp (fun _ hk => hk) trivial (Below.refl _ _) (Nat.le_refl _) (by simp) ?_; (case hd => rfl); (case hg => rfl); (case hr => first | (go_simp; done) | (go_simp; rfl)); (case hp => exact (Reps.none _ _)); intro v323 w50 ho51 hb hg_ hnew_; clear hg_ hnew_; (first | rw [← Ny322.out] at ho51 | (simp only [Int.reduceToNat] at ho51; rw [← Ny322.out] at ho51)); have HO324 := Aside0.mk (Kd.R_lower (Kd.R_new' ho51 (Kd.R_lt (by (with_reducible repeat (first | apply Kd.R_alloc | apply Kd.R_drewN | apply Kd.R_drew)); exact (Kd.R_mono (Cz.rf (Cz.rf (Cz.rf (Cz.rf (Kd.R_types HO300.out BK321.out (by decide)))))) (fun _ h_ => h_.1))))) (below_size (Cz.bl (w := w)))); replace HO300 := Aside0.mk (Kd.R_elder' (by (with_reducible repeat (first | apply Kd.R_alloc | apply Kd.R_drewN | apply Kd.R_drew)); exact (Kd.R_mono (Cz.rf (Cz.rf (Cz.rf (Cz.rf (Kd.R_types HO300.out BK321.out (by decide)))))) (fun _ h_ => h_.1))) (Kd.R_base ho51) hb); replace HO307 := Aside0.mk (Kd.R_elder' (by (with_reducible repeat (first | apply Kd.R_alloc | apply Kd.R_drewN | apply Kd.R_drew)); exact (Kd.R_mono (Cz.rf (Cz.rf (Cz.rf (Cz.rf (Kd.R_types HO307.out BK321.out (by decide)))))) (fun _ h_ => h_.1))) (Kd.R_base ho51) hb); replace HO319 := Aside0.mk (Kd.R_elder' (by (with_reducible repeat (first | apply Kd.R_alloc | apply Kd.R_drewN | apply Kd.R_drew)); exact (Kd.R_mono (Cz.rf (Cz.rf (Cz.rf (Cz.rf (Kd.R_types HO319.out BK321.out (by decide)))))) (fun _ h_ => h_.1))) (Kd.R_base ho51) hb); replace BK295 := Aside0.mk (blk_below (g := gb295) (o := .cells #[.int .i64 a0_0, .int .i64 a0_1, .int .i64 a0_2, .slice A0_3 l0_3.length c0_3] 24 (0, 0)) (by (with_reducible repeat (first | refine blk_drewN ?_ _ | refine blk_drew ?_ | refine blk_alloc ?_ _)); refine blk_far ?_ NB295_321.out _; refine blk_far ?_ NB295_321.out _; refine blk_far ?_ NB295_321.out _; refine blk_far ?_ NB295_321.out _; (with_reducible repeat (first | refine blk_drewN ?_ _ | refine blk_drew ?_ | refine blk_alloc ?_ _)); exact BK295.out) hb); replace BK309 := Aside0.mk (blk_below (g := gb309) (o := .cells #[.int .i64 t302, .int .i64 t303, .int .i64 t304, .slice Ao41 t305.length co41] 24 (0, 0)) (by (with_reducible repeat (first | refine blk_drewN ?_ _ | refine blk_drew ?_ | refine blk_alloc ?_ _)); refine blk_far ?_ NB309_321.out _; refine blk_far ?_ NB309_321.out _; refine blk_far ?_ NB309_321.out _; refine blk_far ?_ NB309_321.out _; (with_reducible repeat (first | refine blk_drewN ?_ _ | refine blk_drew ?_ | refine blk_alloc ?_ _)); exact BK309.out) hb); replace BK321 := Aside0.mk (blk_below (g := gb321) (o := .cells #[.int .i64 t314, .int .i64 t315, .int .i64 t316, .slice Ao49 t317.length co49] 24 (0, 0)) (by (with_reducible repeat (first | refine blk_drewN ?_ _ | refine blk_drew ?_ | refine blk_alloc ?_ _)); apply Cz.a4; (with_reducible repeat (first | refine blk_drewN ?_ _ | refine blk_drew ?_ | refine blk_alloc ?_ _)); exact BK321.out) hb); replace HB := Cz.bs (w := w) hb; clear hb ho51) | ((with_reducible refine gate_builtin (b := .append) (xs := #[.tmp 58, .tmp 59]) rfl ?_); (try (refine gate_guard (by rfl) ?_; dsimp only)); at_builtin; refine Kd.R_append_rows (Kd.int .u8) (w0 := w) w.heap.size rfl (.tmp 58) (.tmp 59) 27 5 (.int .u8 0) 1 rfl Try.underlying27 info5 rfl (by decide) (by omega) v323 y322 t298 _ _ _ (fun k_ => some k_ ≠ (.slice Ao36 t298.length co36 : Value).ownBlock) (fun _ => False) rfl rfl ?aO ?aR (fun _ _ h => h) (fun _ h => h.elim) ?aF ?aB ?aS ?aL ?_; (case aR => repeat (first | exact (Kd.R_reads' HO300.out).2.2 | (with_reducible refine Kd.C_alloc ?_ _) | (with_reducible refine Kd.C_drewN ?_ _) | (with_reducible refine Kd.C_drew ?_))); (case aB => exact (Cz.bl (w := w))); (case aF => exact (fun k_ hk => Kd.fresh' (Kd.R_lt (by (with_reducible repeat (first | apply Kd.R_alloc | apply Kd.R_drewN | apply Kd.R_drew)); exact HO300.out)) k_ hk)); (case aO => exact (by (with_reducible repeat (first | apply Kd.R_alloc | apply Kd.R_drewN | apply Kd.R_drew)); exact Kd.R_mono HO324.out (fun _ hk => hk.2))); (case aS => exact (below_size (Cz.bl (w := w)))); (case aL => have := LMc28.out; omega); intro v326 w52 ho hb hg hat; rw [← Ny325.out] at ho; have n0_ := Cz.bw BK295 hg (Kd.R_ne HO324.out BK295.out (by decide)); have n1_ := Aside0.mk (Kd.R_after (ok := (fun _ => True)) (by (with_reducible repeat (first | apply Kd.R_alloc | apply Kd.R_drewN | apply Kd.R_drew)); exact HO300.out) hg hat); have n2_ := Aside0.mk (Kd.R_after (ok := (fun k_ => some k_ ≠ (.slice Ao36 t298.length co36 : Value).ownBlock ∧ some k_ ≠ (.slice Ao49 t317.length co49 : Value).ownBlock)) (by (with_reducible repeat (first | apply Kd.R_alloc | apply Kd.R_drewN | apply Kd.R_drew)); exact HO307.out) hg hat); have n3_ := Cz.bw BK309 hg (Kd.R_ne HO324.out BK309.out (by decide)); have n4_ := Aside0.mk (Kd.R_after (ok := (fun k_ => some k_ ≠ (.slice Ao36 t298.length co36 : Value).ownBlock ∧ some k_ ≠ (.slice Ao41 t305.length co41 : Value).ownBlock)) (by (with_reducible repeat (first | apply Kd.R_alloc | apply Kd.R_drewN | apply Kd.R_drew)); exact Kd.R_mono HO319.out (fun _ hk => ⟨⟨hk.1.1.2, hk.1.2⟩, hk.2⟩)) hg hat); have n5_ := Cz.bw BK321 hg (Kd.R_ne HO324.out BK321.out (by decide)); have n6_ := Aside0.mk (hb); have n7_ := Aside0.mk ((show Kd.C (Kd.int .u8) w52 Ao36 y310.length y310 from by rw [Ny310.out]; exact Kd.C_take (m := ((ji24) : Int).toNat) ((Kd.R_reads' (Kd.R_after (ok := (fun _ => True)) (by (with_reducible repeat (first | apply Kd.R_alloc | apply Kd.R_drewN | apply Kd.R_drew)); exact HO300.out) hg hat)).2.2) KL43.out)); have n8_ := Aside0.mk (ho); clear BK295; clear HO300; clear HO307; clear BK309; clear HO319; clear BK321; clear HB; clear HR313; clear HO324; have BK295 := n0_; have HO300 := n1_; have HO307 := n2_; have BK309 := n3_; have HO319 := n4_; have BK321 := n5_; have HB := n6_; have HR313 := n7_; have HO327 := n8_; clear n0_ n1_ n2_ n3_ n4_ n5_ n6_ n7_ n8_; clear ho hb hg hat) | ((with_reducible refine gate_builtin (b := .append) (xs := #[.tmp 60, .tmp 61]) rfl ?_); (try (refine gate_guard (by rfl) ?_; dsimp only)); at_builtin; refine Kd.R_append (Kd.int .u8) (w0 := w) w.heap.size rfl (.tmp 60) (.tmp 61) 27 5 (.int .u8 0) 1 rfl Try.underlying27 info5 rfl (by decide) (by omega) v326 y325 0 [.int .u8 0] (fun k_ => some k_ ≠ (.slice Ao36 t298.length co36 : Value).ownBlock) (fun _ => False) rfl rfl ?aP (fun _ hk => hk.elim) ?aF ?aO ?aB ?aS ?aL ?_; (case aP => exact rfl); (case aB => exact (Cz.bl (w := w))); (case aF => exact (fun k_ hk => Kd.fresh' (Kd.R_lt (by (with_reducible repeat (first | apply Kd.R_alloc | apply Kd.R_drewN | apply Kd.R_drew)); exact HO300.out)) k_ hk)); (case aO => exact (by (with_reducible repeat (first | apply Kd.R_alloc | apply Kd.R_drewN | apply Kd.R_drew)); exact HO327.out)); (case aS => exact (below_size (Cz.bl (w := w)))); (case aL => have := LMc29.out; omega); intro v329 w53 ho hb hg hat; rw [← Ny328.out] at ho; have n0_ := Cz.bw BK295 hg (Kd.R_ne HO327.out BK295.out (by decide)); have n1_ := Aside0.mk (Kd.R_after (ok := (fun _ => True)) (by (with_reducible repeat (first | apply Kd.R_alloc | apply Kd.R_drewN | apply Kd.R_drew)); exact HO300.out) hg hat); have n2_ := Aside0.mk (Kd.R_after (ok := (fun k_ => some k_ ≠ (.slice Ao36 t298.length co36 : Value).ownBlock ∧ some k_ ≠ (.slice Ao49 t317.length co49 : Value).ownBlock)) (by (with_reducible repeat (first | apply Kd.R_alloc | apply Kd.R_drewN | apply Kd.R_drew)); exact HO307.out) hg hat); have n3_ := Cz.bw BK309 hg (Kd.R_ne HO327.out BK309.out (by decide)); have n4_ := Aside0.mk (Kd.R_after (ok := (fun k_ => some k_ ≠ (.slice Ao36 t298.length co36 : Value).ownBlock ∧ some k_ ≠ (.slice Ao41 t305.length co41 : Value).ownBlock)) (by (with_reducible repeat (first | apply Kd.R_alloc | apply Kd.R_drewN | apply Kd.R_drew)); exact HO319.out) hg hat); have n5_ := Cz.bw BK321 hg (Kd.R_ne HO327.out BK321.out (by decide)); have n6_ := Aside0.mk (hb); have n7_ := Aside0.mk ((show Kd.C (Kd.int .u8) w53 Ao36 y310.length y310 from by rw [Ny310.out]; exact Kd.C_take (m := ((ji24) : Int).toNat) ((Kd.R_reads' (Kd.R_after (ok := (fun _ => True)) (by (with_reducible repeat (first | apply Kd.R_alloc | apply Kd.R_drewN | apply Kd.R_drew)); exact HO300.out) hg hat)).2.2) KL43.out)); have n8_ := Aside0.mk (ho); clear BK295; clear HO300; clear HO307; clear BK309; clear HO319; clear BK321; clear HB; clear HR313; clear HO327; have BK295 := n0_; have HO300 := n1_; have HO307 := n2_; have BK309 := n3_; have HO319 := n4_; have BK321 := n5_; have HB := n6_; have HR313 := n7_; have HO330 := n8_; clear n0_ n1_ n2_ n3_ n4_ n5_ n6_ n7_ n8_; clear ho hb hg hat; obtain ⟨Ao54, co54, eo54⟩ := Kd.R_slice HO330.out; subst eo54) | ((with_reducible refine gate_callee (f := 28) rfl ?_); refine Cz.gL (N := (some 63)) Try.func28 #[.slice Ao54 y328.length co54] ?_; (with_reducible refine (stream_Read.calls _ _ y328 t331 t332 t333 t334 t337 _ ?side1 ?side2 A30.out).mono ?_); (case side1 => repeat (first | exact (Kd.R_reads' HO330.out).2.2 | (with_reducible refine Kd.C_alloc ?_ _) | (with_reducible refine Kd.C_drewN ?_ _) | (with_reducible refine Kd.C_drew ?_))); (case side2 => exact (Kd.R_reads' HO330.out).2.1); rintro e w55 ⟨v335, rfl, ho0, hb⟩; refine ⟨_, rfl, ?_⟩; have HO336 := Aside0.mk (Kd.R_lower (Kd.R_new' (Kd.R_new' (Kd.R_new' (Kd.R_new' ho0 (Kd.R_lt (by (with_reducible repeat (first | apply Kd.R_alloc | apply Kd.R_drewN | apply Kd.R_drew)); exact HO300.out))) (Kd.R_lt (by (with_reducible repeat (first | apply Kd.R_alloc | apply Kd.R_drewN | apply Kd.R_drew)); exact HO307.out))) (Kd.R_lt (by (with_reducible repeat (first | apply Kd.R_alloc | apply Kd.R_drewN | apply Kd.R_drew)); exact HO319.out))) (Kd.R_lt (by (with_reducible repeat (first | apply Kd.R_alloc | apply Kd.R_drewN | apply Kd.R_drew)); exact HO330.out))) (below_size (Cz.bl (w := w)))); replace HO300 := Cz.rb HO300 hb; replace HO307 := Aside0.mk (Kd.R_elder' (Cz.rq HO307) (Kd.R_base ho0) hb); replace HO319 := Aside0.mk (Kd.R_elder' (Cz.rq HO319) (Kd.R_base ho0) hb); replace HO330 := Cz.rb HO330 hb; replace BK295 := Cz.bk BK295 hb; replace BK309 := Cz.bk BK309 hb; replace BK321 := Cz.bk BK321 hb; replace HB := Cz.bs (w := w) hb; (try clear hb); (try clear ho0)) | ((with_reducible refine gate_dst (N := 14) rfl ?_); (try (refine gate_guard (by rfl) ?_; dsimp only)); refine Cz.bx (N := 14) #[.int .i64 0, .int .i64 0, .int .i64 0, .slice none 0 0] 24 ?_; intro gb338 hg w56 hbox hb; have BK338 := Aside0.mk (hbox); have GW338 := Aside0.mk ((Cz.gs hg : w.heap.size ≤ gb338)); have GE338 := GW338; have NB295_338 := Aside0.mk ((Cz.nl BK295 hg : gb295 ≠ gb338)); have NB338_295 := Aside0.mk ((Cz.nr BK295 hg : gb338 ≠ gb295)); have NB309_338 := Aside0.mk ((Cz.nl BK309 hg : gb309 ≠ gb338)); have NB338_309 := Aside0.mk ((Cz.nr BK309 hg : gb338 ≠ gb309)); have NB321_338 := Aside0.mk ((Cz.nl BK321 hg : gb321 ≠ gb338)); have NB338_321 := Aside0.mk ((Cz.nr BK321 hg : gb338 ≠ gb321)); replace HO300 := Cz.rb HO300 hb; replace HO307 := Cz.rb HO307 hb; replace HO319 := Cz.rb HO319 hb; replace HO330 := Cz.rb HO330 hb; replace HO336 := Cz.rb HO336 hb; replace BK295 := Cz.bk BK295 hb; replace BK309 := Cz.bk BK309 hb; replace BK321 := Cz.bk BK321 hb; replace HB := Cz.bs (w := w) hb; clear hb hbox hg; have hnb57 := NB338_295.out; have hnc57 := NB295_338.out; have hnb58 := NB338_309.out; have hnc58 := NB309_338.out; have hnb59 := NB338_321.out; have hnc59 := NB321_338.out; obtain ⟨z60_0, z60_1, z60_2, z60_3, y60_0, y60_1, y60_2, y60_3⟩ := Cz.d4 BK338; obtain ⟨Ao61, co61, eo61⟩ := Kd.R_slice HO336.out; subst eo61; obtain ⟨z62_0, z62_1, z62_2, z62_3, y62_0, y62_1, y62_2, y62_3⟩ := Cz.d4 BK295; obtain ⟨z63_0, z63_1, z63_2, z63_3, y63_0, y63_1, y63_2, y63_3⟩ := Cz.d4 BK309) | ((with_reducible refine gate_callee (f := 30) rfl ?_); refine Cz.gL (N := (some 68)) Try.func30 #[.agg #[.int .i64 a0_0, .int .i64 a0_1, .int .i64 a0_2, .slice A0_3 l0_3.length c0_3], .agg #[.int .i64 t302, .int .i64 t303, .int .i64 t304, .slice Ao41 t305.length co41]] ?_; (with_reducible refine (waggonerref17_Same.calls a0_0 a0_1 a0_2 _ _ l0_3 t302 t303 t304 _ _ t305 true _ ?side1 ?side2 ?side3 ?side4 A31.out).mono ?_); (case side1 => exact Kd.C_below HR0_3.out (Cz.bl (w := w))); (case side2 => exact HC0_3.out); (case side3 => refine (Kd.R_reads' (e := 36) (base := w.heap.size) (ok := fun k_ => (((some k_ ≠ (.slice Ao36 t298.length co36 : Value).ownBlock ∧ some k_ ≠ (.slice Ao49 t317.length co49 : Value).ownBlock) ∧ some k_ ≠ (.slice Ao54 y328.length co54 : Value).ownBlock) ∧ some k_ ≠ (.slice Ao61 t334.length co61 : Value).ownBlock)) (n := t305.length) (c := co41) ?_).2.2; exact (by (with_reducible repeat (first | apply Kd.R_alloc | apply Kd.R_drewN | apply Kd.R_drew)); exact (Kd.R_mono (Cz.rf (Cz.rf (Cz.rf (Cz.rf (Kd.R_types HO307.out BK338.out (by decide)))))) (fun _ h_ => h_.1)))); (case side4 => exact (Kd.R_reads' HO307.out).2.1); rintro e w64 ⟨rfl, hb⟩; refine ⟨_, rfl, ?_⟩; replace HO300 := Aside0.mk (Kd.R_below (by (with_reducible repeat (first | apply Kd.R_alloc | apply Kd.R_drewN | apply Kd.R_drew)); exact (Kd.R_mono (Cz.rf (Cz.rf (Cz.rf (Cz.rf (Kd.R_types HO300.out BK338.out (by decide)))))) (fun _ h_ => h_.1))) hb); replace HO307 := Aside0.mk (Kd.R_below (by (with_reducible repeat (first | apply Kd.R_alloc | apply Kd.R_drewN | apply Kd.R_drew)); exact (Kd.R_mono (Cz.rf (Cz.rf (Cz.rf (Cz.rf (Kd.R_types HO307.out BK338.out (by decide)))))) (fun _ h_ => h_.1))) hb); replace HO319 := Aside0.mk (Kd.R_below (by (with_reducible repeat (first | apply Kd.R_alloc | apply Kd.R_drewN | apply Kd.R_drew)); exact (Kd.R_mono (Cz.rf (Cz.rf (Cz.rf (Cz.rf (Kd.R_types HO319.out BK338.out (by decide)))))) (fun _ h_ => h_.1))) hb); replace HO330 := Aside0.mk (Kd.R_below (by (with_reducible repeat (first | apply Kd.R_alloc | apply Kd.R_drewN | apply Kd.R_drew)); exact (Kd.R_mono (Cz.rf (Cz.rf (Cz.rf (Cz.rf (Kd.R_types HO330.out BK338.out (by decide)))))) (fun _ h_ => h_.1))) hb); replace HO336 := Aside0.mk (Kd.R_below (by (with_reducible repeat (first | apply Kd.R_alloc | apply Kd.R_drewN | apply Kd.R_drew)); exact (Kd.R_mono (Cz.rf (Cz.rf (Cz.rf (Cz.rf (Kd.R_types HO336.out BK338.out (by decide)))))) (fun _ h_ => h_.1))) hb); replace BK295 := Aside0.mk (blk_below (g := gb295) (o := .cells #[.int .i64 a0_0, .int .i64 a0_1, .int .i64 a0_2, .slice A0_3 l0_3.length c0_3] 24 (0, 0)) (by (with_reducible repeat (first | refine blk_drewN ?_ _ | refine blk_drew ?_ | refine blk_alloc ?_ _)); refine blk_far ?_ NB295_338.out _; refine blk_far ?_ NB295_338.out _; refine blk_far ?_ NB295_338.out _; refine blk_far ?_ NB295_338.out _; (with_reducible repeat (first | refine blk_drewN ?_ _ | refine blk_drew ?_ | refine blk_alloc ?_ _)); exact BK295.out) hb); replace BK309 := Aside0.mk (blk_below (g := gb309) (o := .cells #[.int .i64 t302, .int .i64 t303, .int .i64 t304, .slice Ao41 t305.length co41] 24 (0, 0)) (by (with_reducible repeat (first | refine blk_drewN ?_ _ | refine blk_drew ?_ | refine blk_alloc ?_ _)); refine blk_far ?_ NB309_338.out _; refine blk_far ?_ NB309_338.out _; refine blk_far ?_ NB309_338.out _; refine blk_far ?_ NB309_338.out _; (with_reducible repeat (first | refine blk_drewN ?_ _ | refine blk_drew ?_ | refine blk_alloc ?_ _)); exact BK309.out) hb); replace BK321 := Aside0.mk (blk_below (g := gb321) (o := .cells #[.int .i64 t314, .int .i64 t315, .int .i64 t316, .slice Ao49 t317.length co49] 24 (0, 0)) (by (with_reducible repeat (first | refine blk_drewN ?_ _ | refine blk_drew ?_ | refine blk_alloc ?_ _)); refine blk_far ?_ NB321_338.out _; refine blk_far ?_ NB321_338.out _; refine blk_far ?_ NB321_338.out _; refine blk_far ?_ NB321_338.out _; (with_reducible repeat (first | refine blk_drewN ?_ _ | refine blk_drew ?_ | refine blk_alloc ?_ _)); exact BK321.out) hb); replace BK338 := Aside0.mk (blk_below (g := gb338) (o := .cells #[.int .i64 t331, .int .i64 t332, .int .i64 t333, .slice Ao61 t334.length co61] 24 (0, 0)) (by (with_reducible repeat (first | refine blk_drewN ?_ _ | refine blk_drew ?_ | refine blk_alloc ?_ _)); apply Cz.a4; (with_reducible repeat (first | refine blk_drewN ?_ _ | refine blk_drew ?_ | refine blk_alloc ?_ _)); exact BK338.out) hb); replace HB := Cz.bs (w := w) hb; (try clear hb); (try clear hk)))
                go_meet
                case rel => exact ⟨_, H', ⟨by have := HJ4.out; first | omega | exact Nat.le_refl _⟩, ⟨by (with_reducible repeat (first | refine blk_drewN ?_ _ | refine blk_drew ?_ | refine blk_alloc ?_ _)); exact BK295.out⟩, ⟨Cz.bl (w := w)⟩⟩
               ·rw [if_neg c35] at H
                first | exact absurd H (by simp; done) | skip
              ·rw [if_neg c34] at H
               first | exact absurd H (by simp; done) | skip
             ·rw [if_neg c33] at H
              first | exact absurd H (by simp; done) | skip
            ·replace c32 := Bool.eq_false_iff.mpr c32
             subst c32
             have H1 : (some false) = some true := by rw [if_neg (show ¬ (false = true) by decide)] at H <;> exact H
             exact absurd H1 (by simp)
           ·rw [if_neg c29] at H
            exact absurd H (by simp)
          ·rw [if_neg c28] at H
           exact absurd H (by simp)
         ·rw [if_neg c26] at H
          exact absurd H (by simp)
        ·rw [if_neg c25] at H
         exact absurd H (by simp)
     ·rw [if_neg c19] at H
      have c19b0 : (t301 == 0) = false := beq_eq_false_iff_ne.mpr c19
      have c19b1 : (t301 != 0) = true := bne_iff_ne.mpr c19
      (first | rw [c19b0] | (simp only [i64_w, i32_w]; rw [c19b0]) | skip)
      have H' := Aside0.mk H
      clear H
      go_wp2
      go_meet
      case rel => exact ⟨_, H', ⟨by have := HJ4.out; first | omega | exact Nat.le_refl _⟩, ⟨by (with_reducible repeat (first | refine blk_drewN ?_ _ | refine blk_drew ?_ | refine blk_alloc ?_ _)); exact BK295.out⟩, ⟨Cz.bl (w := w)⟩⟩
    case rest =>
     clear HC16
     try clear c1
     try clear q1
     try clear c2
     try clear p2 p2
     try clear c3
     try clear c4
     try clear q4
     try clear c5
     try clear c6
     try clear p6
     try clear c7
     try clear q7
     try clear c8
     try clear c9
     try clear c10
     try clear q10
     try clear c11
     try clear c12
     try clear c13
     try clear q13
     try clear c14
     try clear c15
     try clear q15
     try clear c16
     try clear c17
     try clear c19
     try clear c19b0
     try clear c19b1
     try clear c20
     try clear c20b0
     try clear c20b1
     try clear c23
     try clear c23b0
     try clear c23b1
     try clear c23b2
     try clear c25
     try clear c25b0
     try clear c25b1
     try clear c26
     try clear c26b0
     try clear c26b1
     try clear c28
     try clear c29
     try clear c30
     try clear c32
     try clear c33
     try clear c33b0
     try clear c33b1
     try clear c34
     try clear c34b0
     try clear c34b1
     try clear c35
     try clear c35b0
     try clear c35b1
     try clear c39
     try clear q43 q43
     try clear c46
     try clear c47
     try clear c57
     try clear c58
     try clear c59
     try clear p64
     try clear c68
     try clear q72 q72
     try clear c75
     try clear c76
     try clear c86
     try clear c87
     try clear c88
     try clear c97
     try clear q101 q101
     try clear c104
     try clear c105
     try clear c115
     try clear c116
     try clear c117
     try clear c126
     try clear q130 q130
     try clear c133
     try clear c134
     try clear c144
     try clear c145
     try clear c146
     try clear c155
     try clear q159 q159
     try clear c162
     try clear c163
     try clear c173
     try clear c174
     try clear c175
     try clear z106_0 z106_1 z106_2 z106_3 y106_0 y106_1 y106_2 y106_3
     try clear z10_0 z10_1 z10_2 z10_3 y10_0 y10_1 y10_2 y10_3
     try clear z118_0 z118_1 z118_2 z118_3 y118_0 y118_1 y118_2 y118_3
     try clear z120_0 z120_1 z120_2 z120_3 y120_0 y120_1 y120_2 y120_3
     try clear z121_0 z121_1 z121_2 z121_3 y121_0 y121_1 y121_2 y121_3
     try clear z127_0 z127_1 z127_2 z127_3 y127_0 y127_1 y127_2 y127_3
     try clear z12_0 z12_1 z12_2 z12_3 y12_0 y12_1 y12_2 y12_3
     try clear z135_0 z135_1 z135_2 z135_3 y135_0 y135_1 y135_2 y135_3
     try clear z147_0 z147_1 z147_2 z147_3 y147_0 y147_1 y147_2 y147_3
     try clear z149_0 z149_1 z149_2 z149_3 y149_0 y149_1 y149_2 y149_3
     try clear z150_0 z150_1 z150_2 z150_3 y150_0 y150_1 y150_2 y150_3
     try clear z156_0 z156_1 z156_2 z156_3 y156_0 y156_1 y156_2 y156_3
     try clear z164_0 z164_1 z164_2 z164_3 y164_0 y164_1 y164_2 y164_3
     try clear z176_0 z176_1 z176_2 z176_3 y176_0 y176_1 y176_2 y176_3
     try clear z178_0 z178_1 z178_2 z178_3 y178_0 y178_1 y178_2 y178_3
     try clear z179_0 z179_1 z179_2 z179_3 y179_0 y179_1 y179_2 y179_3
     try clear z17_0 z17_1 z17_2 z17_3 y17_0 y17_1 y17_2 y17_3
     try clear z40_0 z40_1 z40_2 z40_3 y40_0 y40_1 y40_2 y40_3
     try clear z48_0 z48_1 z48_2 z48_3 y48_0 y48_1 y48_2 y48_3
     try clear z60_0 z60_1 z60_2 z60_3 y60_0 y60_1 y60_2 y60_3
     try clear z62_0 z62_1 z62_2 z62_3 y62_0 y62_1 y62_2 y62_3
     try clear z63_0 z63_1 z63_2 z63_3 y63_0 y63_1 y63_2 y63_3
     try clear z69_0 z69_1 z69_2 z69_3 y69_0 y69_1 y69_2 y69_3
     try clear z77_0 z77_1 z77_2 z77_3 y77_0 y77_1 y77_2 y77_3
     try clear z89_0 z89_1 z89_2 z89_3 y89_0 y89_1 y89_2 y89_3
     try clear z91_0 z91_1 z91_2 z91_3 y91_0 y91_1 y91_2 y91_3
     try clear z92_0 z92_1 z92_2 z92_3 y92_0 y92_1 y92_2 y92_3
     try clear z98_0 z98_1 z98_2 z98_3 y98_0 y98_1 y98_2 y98_3
     obtain ⟨kq, HA, HJ15, BK295, HB⟩ := hcut
     cases kq with
     | zero => exact absurd HA.out (by simp [waggonerlaw17_StreamBack.j1])
     | succ kj15 =>
      have H := HA.out
      clear HA
      simp only [waggonerlaw17_StreamBack.j1] at H
      replace H := Option.bind_eq_some_iff.mp H
      obtain ⟨⟨t340, t341, t342, t343, t346⟩, A1810, H⟩ := H
      (try dsimp only at H)
      have A181 := Aside0.mk A1810
      clear A1810
      replace H := Option.bind_eq_some_iff.mp H
      obtain ⟨⟨t348, t351⟩, A1820, H⟩ := H
      (try dsimp only at H)
      have A182 := Aside0.mk A1820
      clear A1820
      by_cases c183 : t296 = true
      ·subst c183
       rw [if_pos rfl] at H
       replace H := Option.bind_eq_some_iff.mp H
       obtain ⟨t352, A1840, H⟩ := H
       (try dsimp only at H)
       have A184 := Aside0.mk A1840
       clear A1840
       by_cases c185 : ((t301 == 0) == t352) = true
       ·rw [if_pos c185] at H
        have c185b0 : ((t301 == 0) == t352) = true := c185
        (try (have c185b1 : decide ((t301 == 0) = t352) = true := by simpa using c185))
        (try (have c185b2 : ((t301 == 0) == t352) = true := by simpa using c185))
        (try (have hq_ : t352 = true := by (have q_ := c185b0; rw [show (t301 == 0) = true from by assumption] at q_; cases t352 <;> first | rfl | exact absurd q_ (by decide))))
        (try (have hq_ : t352 = false := by (have q_ := c185b0; rw [show (t301 == 0) = false from by assumption] at q_; cases t352 <;> first | rfl | exact absurd q_ (by decide))))
        clear c185
        by_cases c186 : t346 = 0
        ·rw [if_pos c186] at H
         have c186b0 : (t346 == 0) = true := beq_iff_eq.mpr c186
         have c186b1 : (t346 != 0) = false := bne_eq_false_iff_eq.mpr c186
         clear c186
         replace H := Option.bind_eq_some_iff.mp H
         obtain ⟨t353, A1870, H⟩ := H
         (try dsimp only at H)
         have A187 := Aside0.mk A1870
         clear A1870
         by_cases c188 : t353 = true
         ·subst c188
          rw [if_pos rfl] at H
          by_cases c189 : t351 = 0
          ·rw [if_pos c189] at H
           have c189b0 : (t351 == 0) = true := beq_iff_eq.mpr c189
           have c189b1 : (t351 != 0) = false := bne_eq_false_iff_eq.mpr c189
           clear c189
           (have HRT := Aside0.mk (Option.some.inj H); clear H)
           go_wp2_with (first | ((with_reducible refine gate_callee (f := 28) rfl ?_); refine Cz.gL (N := (some 85)) Try.func28 #[.slice A1 l1.length c1] ?_; (with_reducible refine (stream_Read.calls _ _ l1 t340 t341 t342 t343 t346 _ ?side1 ?side2 A181.out).mono ?_); (case side1 => exact Cz.cb HR1); (case side2 => exact HC1.out); rintro e w190 ⟨v344, rfl, ho0, hb⟩; refine ⟨_, rfl, ?_⟩; have HO345 := Aside0.mk (Kd.R_lower ho0 (below_size (Cz.bl (w := w)))); replace BK295 := Cz.bk BK295 hb; replace HB := Cz.bs (w := w) hb; (try clear hb); (try clear ho0)) | ((with_reducible refine gate_dst (N := 17) rfl ?_); (try (refine gate_guard (by rfl) ?_; dsimp only)); refine Cz.bx (N := 17) #[.int .i64 0, .int .i64 0, .int .i64 0, .slice none 0 0] 24 ?_; intro gb347 hg w191 hbox hb; have BK347 := Aside0.mk (hbox); have GW347 := Aside0.mk ((Cz.gs hg : w.heap.size ≤ gb347)); have GE347 := GW347; have NB295_347 := Aside0.mk ((Cz.nl BK295 hg : gb295 ≠ gb347)); have NB347_295 := Aside0.mk ((Cz.nr BK295 hg : gb347 ≠ gb295)); replace HO345 := Cz.rb HO345 hb; replace BK295 := Cz.bk BK295 hb; replace HB := Cz.bs (w := w) hb; clear hb hbox hg; have hnb192 := NB347_295.out; have hnc192 := NB295_347.out; obtain ⟨z193_0, z193_1, z193_2, z193_3, y193_0, y193_1, y193_2, y193_3⟩ := Cz.d4 BK347; obtain ⟨Ao194, co194, eo194⟩ := Kd.R_slice HO345.out; subst eo194) | ((with_reducible refine gate_callee (f := 15) rfl ?_); refine Cz.gL (N := (some 90)) Try.func15 #[.agg #[.int .i64 t340, .int .i64 t341, .int .i64 t342, .slice Ao194 t343.length co194]] ?_; (with_reducible refine (stream_Write.calls t340 t341 t342 _ _ t343 t348 t351 _ ?side1 ?side2 A182.out).mono ?_); (case side1 => refine (Kd.R_reads' (e := 36) (base := w.heap.size) (ok := fun k_ => True) (n := t343.length) (c := co194) ?_).2.2; exact (by (with_reducible repeat (first | apply Kd.R_alloc | apply Kd.R_drewN | apply Kd.R_drew)); exact (Kd.R_mono (Cz.rf (Cz.rf (Cz.rf (Cz.rf (Kd.R_types HO345.out BK347.out (by decide)))))) (fun _ h_ => h_.1)))); (case side2 => exact (Kd.R_reads' HO345.out).2.1); rintro e w195 ⟨v349, rfl, ho0, hb⟩; refine ⟨_, rfl, ?_⟩; have HO350 := Aside0.mk (Kd.R_lower ho0 (below_size (Cz.bl (w := w)))); replace HO345 := Aside0.mk (Kd.R_elder' (by (with_reducible repeat (first | apply Kd.R_alloc | apply Kd.R_drewN | apply Kd.R_drew)); exact (Kd.R_mono (Cz.rf (Cz.rf (Cz.rf (Cz.rf (Kd.R_types HO345.out BK347.out (by decide)))))) (fun _ h_ => h_.1))) (Kd.R_base ho0) hb); replace BK295 := Aside0.mk (blk_below (g := gb295) (o := .cells #[.int .i64 a0_0, .int .i64 a0_1, .int .i64 a0_2, .slice A0_3 l0_3.length c0_3] 24 (0, 0)) (by (with_reducible repeat (first | refine blk_drewN ?_ _ | refine blk_drew ?_ | refine blk_alloc ?_ _)); refine blk_far ?_ NB295_347.out _; refine blk_far ?_ NB295_347.out _; refine blk_far ?_ NB295_347.out _; refine blk_far ?_ NB295_347.out _; (with_reducible repeat (first | refine blk_drewN ?_ _ | refine blk_drew ?_ | refine blk_alloc ?_ _)); exact BK295.out) hb); replace BK347 := Aside0.mk (blk_below (g := gb347) (o := .cells #[.int .i64 t340, .int .i64 t341, .int .i64 t342, .slice Ao194 t343.length co194] 24 (0, 0)) (by (with_reducible repeat (first | refine blk_drewN ?_ _ | refine blk_drew ?_ | refine blk_alloc ?_ _)); apply Cz.a4; (with_reducible repeat (first | refine blk_drewN ?_ _ | refine blk_drew ?_ | refine blk_alloc ?_ _)); exact BK347.out) hb); replace HB := Cz.bs (w := w) hb; (try clear hb); (try clear hk); (try clear ho0); obtain ⟨z196_0, z196_1, z196_2, z196_3, y196_0, y196_1, y196_2, y196_3⟩ := Cz.d4 BK295) | (go_at_call 31; (with_reducible refine (stream_Check.calls a0_0 a0_1 a0_2 _ _ l0_3 t352 _ ?side1 ?side2 A184.out).mono ?_); (case side1 => exact Cz.cb HR0_3); (case side2 => exact HC0_3.out); rintro e w197 ⟨rfl, hb⟩; replace HO345 := Cz.rb HO345 hb; replace HO350 := Cz.rb HO350 hb; replace BK295 := Cz.bk BK295 hb; replace BK347 := Cz.bk BK347 hb; replace HB := Cz.bs (w := w) hb; (try clear hb); obtain ⟨z198_0, z198_1, z198_2, z198_3, y198_0, y198_1, y198_2, y198_3⟩ := Cz.d4 BK347) | (go_at_call 31; (with_reducible refine (stream_Check.calls t340 t341 t342 _ _ t343 true _ ?side1 ?side2 A187.out).mono ?_); (case side1 => repeat (first | exact (Kd.R_reads' HO345.out).2.2 | (with_reducible refine Kd.C_alloc ?_ _) | (with_reducible refine Kd.C_drewN ?_ _) | (with_reducible refine Kd.C_drew ?_))); (case side2 => exact (Kd.R_reads' HO345.out).2.1); rintro e w199 ⟨rfl, hb⟩; replace HO345 := Cz.rb HO345 hb; replace HO350 := Cz.rb HO350 hb; replace BK295 := Cz.bk BK295 hb; replace BK347 := Cz.bk BK347 hb; replace HB := Cz.bs (w := w) hb; (try clear hb); have hcv200 := own_string (P := Try.prog) Try.underlying27 Try.underlying5 Try.underlying9 (Kd.own_of_R HO350.out); (try have hcvd201 := fun (n_ : Nat) => own_string (P := Try.prog) Try.underlying27 Try.underlying5 Try.underlying9 (Kd.own_of_R (Kd.R_drewN HO350.out n_))); have hcv202 := Kd.C_string (P := Try.prog) (A := A1) (c := c1) Try.underlying27 Try.underlying5 Try.underlying9 (Kd.C_below HR1.out HB.out); (try have hcvd203 := fun (n_ : Nat) => Kd.C_string (P := Try.prog) (A := A1) (c := c1) Try.underlying27 Try.underlying5 Try.underlying9 (Kd.C_drewN (Kd.C_below HR1.out HB.out) n_))))
           go_ret
           exact ⟨by first | rfl | (exact congrArg (fun z_ => Ending.returned (Value.bool z_)) HRT.out) | (rw [HRT.out]; done) | (simp [errW_none, errW_some] <;> rfl) | (simp [*, errW_none, errW_some] <;> rfl), Cz.bl (w := w)⟩
          ·rw [if_neg c189] at H
           first | exact absurd H (by simp; done) | skip
         ·replace c188 := Bool.eq_false_iff.mpr c188
          subst c188
          have H1 : (some false) = some true := by rw [if_neg (show ¬ (false = true) by decide)] at H <;> exact H
          exact absurd H1 (by simp)
        ·rw [if_neg c186] at H
         have c186b0 : (t346 == 0) = false := beq_eq_false_iff_ne.mpr c186
         have c186b1 : (t346 != 0) = true := bne_iff_ne.mpr c186
         by_cases c224 : t340 = 0
         ·rw [if_pos c224] at H
          have c224b0 : (t340 == 0) = true := beq_iff_eq.mpr c224
          have c224b1 : (t340 != 0) = false := bne_eq_false_iff_eq.mpr c224
          clear c224
          (have HRT := Aside0.mk (Option.some.inj H); clear H)
          go_wp2_with (first | ((with_reducible refine gate_callee (f := 28) rfl ?_); refine Cz.gL (N := (some 85)) Try.func28 #[.slice A1 l1.length c1] ?_; (with_reducible refine (stream_Read.calls _ _ l1 t340 t341 t342 t343 t346 _ ?side1 ?side2 A181.out).mono ?_); (case side1 => exact Cz.cb HR1); (case side2 => exact HC1.out); rintro e w225 ⟨v344, rfl, ho0, hb⟩; refine ⟨_, rfl, ?_⟩; have HO345 := Aside0.mk (Kd.R_lower ho0 (below_size (Cz.bl (w := w)))); replace BK295 := Cz.bk BK295 hb; replace HB := Cz.bs (w := w) hb; (try clear hb); (try clear ho0)) | ((with_reducible refine gate_dst (N := 17) rfl ?_); (try (refine gate_guard (by rfl) ?_; dsimp only)); refine Cz.bx (N := 17) #[.int .i64 0, .int .i64 0, .int .i64 0, .slice none 0 0] 24 ?_; intro gb347 hg w226 hbox hb; have BK347 := Aside0.mk (hbox); have GW347 := Aside0.mk ((Cz.gs hg : w.heap.size ≤ gb347)); have GE347 := GW347; have NB295_347 := Aside0.mk ((Cz.nl BK295 hg : gb295 ≠ gb347)); have NB347_295 := Aside0.mk ((Cz.nr BK295 hg : gb347 ≠ gb295)); replace HO345 := Cz.rb HO345 hb; replace BK295 := Cz.bk BK295 hb; replace HB := Cz.bs (w := w) hb; clear hb hbox hg; have hnb227 := NB347_295.out; have hnc227 := NB295_347.out; obtain ⟨z228_0, z228_1, z228_2, z228_3, y228_0, y228_1, y228_2, y228_3⟩ := Cz.d4 BK347; obtain ⟨Ao229, co229, eo229⟩ := Kd.R_slice HO345.out; subst eo229) | ((with_reducible refine gate_callee (f := 15) rfl ?_); refine Cz.gL (N := (some 90)) Try.func15 #[.agg #[.int .i64 t340, .int .i64 t341, .int .i64 t342, .slice Ao229 t343.length co229]] ?_; (with_reducible refine (stream_Write.calls t340 t341 t342 _ _ t343 t348 t351 _ ?side1 ?side2 A182.out).mono ?_); (case side1 => refine (Kd.R_reads' (e := 36) (base := w.heap.size) (ok := fun k_ => True) (n := t343.length) (c := co229) ?_).2.2; exact (by (with_reducible repeat (first | apply Kd.R_alloc | apply Kd.R_drewN | apply Kd.R_drew)); exact (Kd.R_mono (Cz.rf (Cz.rf (Cz.rf (Cz.rf (Kd.R_types HO345.out BK347.out (by decide)))))) (fun _ h_ => h_.1)))); (case side2 => exact (Kd.R_reads' HO345.out).2.1); rintro e w230 ⟨v349, rfl, ho0, hb⟩; refine ⟨_, rfl, ?_⟩; have HO350 := Aside0.mk (Kd.R_lower ho0 (below_size (Cz.bl (w := w)))); replace HO345 := Aside0.mk (Kd.R_elder' (by (with_reducible repeat (first | apply Kd.R_alloc | apply Kd.R_drewN | apply Kd.R_drew)); exact (Kd.R_mono (Cz.rf (Cz.rf (Cz.rf (Cz.rf (Kd.R_types HO345.out BK347.out (by decide)))))) (fun _ h_ => h_.1))) (Kd.R_base ho0) hb); replace BK295 := Aside0.mk (blk_below (g := gb295) (o := .cells #[.int .i64 a0_0, .int .i64 a0_1, .int .i64 a0_2, .slice A0_3 l0_3.length c0_3] 24 (0, 0)) (by (with_reducible repeat (first | refine blk_drewN ?_ _ | refine blk_drew ?_ | refine blk_alloc ?_ _)); refine blk_far ?_ NB295_347.out _; refine blk_far ?_ NB295_347.out _; refine blk_far ?_ NB295_347.out _; refine blk_far ?_ NB295_347.out _; (with_reducible repeat (first | refine blk_drewN ?_ _ | refine blk_drew ?_ | refine blk_alloc ?_ _)); exact BK295.out) hb); replace BK347 := Aside0.mk (blk_below (g := gb347) (o := .cells #[.int .i64 t340, .int .i64 t341, .int .i64 t342, .slice Ao229 t343.length co229] 24 (0, 0)) (by (with_reducible repeat (first | refine blk_drewN ?_ _ | refine blk_drew ?_ | refine blk_alloc ?_ _)); apply Cz.a4; (with_reducible repeat (first | refine blk_drewN ?_ _ | refine blk_drew ?_ | refine blk_alloc ?_ _)); exact BK347.out) hb); replace HB := Cz.bs (w := w) hb; (try clear hb); (try clear hk); (try clear ho0); obtain ⟨z231_0, z231_1, z231_2, z231_3, y231_0, y231_1, y231_2, y231_3⟩ := Cz.d4 BK295) | (go_at_call 31; (with_reducible refine (stream_Check.calls a0_0 a0_1 a0_2 _ _ l0_3 t352 _ ?side1 ?side2 A184.out).mono ?_); (case side1 => exact Cz.cb HR0_3); (case side2 => exact HC0_3.out); rintro e w232 ⟨rfl, hb⟩; replace HO345 := Cz.rb HO345 hb; replace HO350 := Cz.rb HO350 hb; replace BK295 := Cz.bk BK295 hb; replace BK347 := Cz.bk BK347 hb; replace HB := Cz.bs (w := w) hb; (try clear hb); obtain ⟨z233_0, z233_1, z233_2, z233_3, y233_0, y233_1, y233_2, y233_3⟩ := Cz.d4 BK347))
          go_ret
          exact ⟨by first | rfl | (exact congrArg (fun z_ => Ending.returned (Value.bool z_)) HRT.out) | (rw [HRT.out]; done) | (simp [errW_none, errW_some] <;> rfl) | (simp [*, errW_none, errW_some] <;> rfl), Cz.bl (w := w)⟩
         ·rw [if_neg c224] at H
          have c224b0 : (t340 == 0) = false := beq_eq_false_iff_ne.mpr c224
          have c224b1 : (t340 != 0) = true := bne_iff_ne.mpr c224
          replace H := Option.bind_eq_some_iff.mp H
          obtain ⟨t354, A2340, H⟩ := H
          (try dsimp only at H)
          have A234 := Aside0.mk A2340
          clear A2340
          by_cases c235 : t354 = true
          ·subst c235
           rw [if_pos rfl] at H
           by_cases c236 : t351 = 0
           ·rw [if_pos c236] at H
            have c236b0 : (t351 == 0) = true := beq_iff_eq.mpr c236
            have c236b1 : (t351 != 0) = false := bne_eq_false_iff_eq.mpr c236
            clear c236
            (have HRT := Aside0.mk (Option.some.inj H); clear H)
            go_wp2_with (first | ((with_reducible refine gate_callee (f := 28) rfl ?_); refine Cz.gL (N := (some 85)) Try.func28 #[.slice A1 l1.length c1] ?_; (with_reducible refine (stream_Read.calls _ _ l1 t340 t341 t342 t343 t346 _ ?side1 ?side2 A181.out).mono ?_); (case side1 => exact Cz.cb HR1); (case side2 => exact HC1.out); rintro e w237 ⟨v344, rfl, ho0, hb⟩; refine ⟨_, rfl, ?_⟩; have HO345 := Aside0.mk (Kd.R_lower ho0 (below_size (Cz.bl (w := w)))); replace BK295 := Cz.bk BK295 hb; replace HB := Cz.bs (w := w) hb; (try clear hb); (try clear ho0)) | ((with_reducible refine gate_dst (N := 17) rfl ?_); (try (refine gate_guard (by rfl) ?_; dsimp only)); refine Cz.bx (N := 17) #[.int .i64 0, .int .i64 0, .int .i64 0, .slice none 0 0] 24 ?_; intro gb347 hg w238 hbox hb; have BK347 := Aside0.mk (hbox); have GW347 := Aside0.mk ((Cz.gs hg : w.heap.size ≤ gb347)); have GE347 := GW347; have NB295_347 := Aside0.mk ((Cz.nl BK295 hg : gb295 ≠ gb347)); have NB347_295 := Aside0.mk ((Cz.nr BK295 hg : gb347 ≠ gb295)); replace HO345 := Cz.rb HO345 hb; replace BK295 := Cz.bk BK295 hb; replace HB := Cz.bs (w := w) hb; clear hb hbox hg; have hnb239 := NB347_295.out; have hnc239 := NB295_347.out; obtain ⟨z240_0, z240_1, z240_2, z240_3, y240_0, y240_1, y240_2, y240_3⟩ := Cz.d4 BK347; obtain ⟨Ao241, co241, eo241⟩ := Kd.R_slice HO345.out; subst eo241) | ((with_reducible refine gate_callee (f := 15) rfl ?_); refine Cz.gL (N := (some 90)) Try.func15 #[.agg #[.int .i64 t340, .int .i64 t341, .int .i64 t342, .slice Ao241 t343.length co241]] ?_; (with_reducible refine (stream_Write.calls t340 t341 t342 _ _ t343 t348 t351 _ ?side1 ?side2 A182.out).mono ?_); (case side1 => refine (Kd.R_reads' (e := 36) (base := w.heap.size) (ok := fun k_ => True) (n := t343.length) (c := co241) ?_).2.2; exact (by (with_reducible repeat (first | apply Kd.R_alloc | apply Kd.R_drewN | apply Kd.R_drew)); exact (Kd.R_mono (Cz.rf (Cz.rf (Cz.rf (Cz.rf (Kd.R_types HO345.out BK347.out (by decide)))))) (fun _ h_ => h_.1)))); (case side2 => exact (Kd.R_reads' HO345.out).2.1); rintro e w242 ⟨v349, rfl, ho0, hb⟩; refine ⟨_, rfl, ?_⟩; have HO350 := Aside0.mk (Kd.R_lower ho0 (below_size (Cz.bl (w := w)))); replace HO345 := Aside0.mk (Kd.R_elder' (by (with_reducible repeat (first | apply Kd.R_alloc | apply Kd.R_drewN | apply Kd.R_drew)); exact (Kd.R_mono (Cz.rf (Cz.rf (Cz.rf (Cz.rf (Kd.R_types HO345.out BK347.out (by decide)))))) (fun _ h_ => h_.1))) (Kd.R_base ho0) hb); replace BK295 := Aside0.mk (blk_below (g := gb295) (o := .cells #[.int .i64 a0_0, .int .i64 a0_1, .int .i64 a0_2, .slice A0_3 l0_3.length c0_3] 24 (0, 0)) (by (with_reducible repeat (first | refine blk_drewN ?_ _ | refine blk_drew ?_ | refine blk_alloc ?_ _)); refine blk_far ?_ NB295_347.out _; refine blk_far ?_ NB295_347.out _; refine blk_far ?_ NB295_347.out _; refine blk_far ?_ NB295_347.out _; (with_reducible repeat (first | refine blk_drewN ?_ _ | refine blk_drew ?_ | refine blk_alloc ?_ _)); exact BK295.out) hb); replace BK347 := Aside0.mk (blk_below (g := gb347) (o := .cells #[.int .i64 t340, .int .i64 t341, .int .i64 t342, .slice Ao241 t343.length co241] 24 (0, 0)) (by (with_reducible repeat (first | refine blk_drewN ?_ _ | refine blk_drew ?_ | refine blk_alloc ?_ _)); apply Cz.a4; (with_reducible repeat (first | refine blk_drewN ?_ _ | refine blk_drew ?_ | refine blk_alloc ?_ _)); exact BK347.out) hb); replace HB := Cz.bs (w := w) hb; (try clear hb); (try clear hk); (try clear ho0); obtain ⟨z243_0, z243_1, z243_2, z243_3, y243_0, y243_1, y243_2, y243_3⟩ := Cz.d4 BK295) | (go_at_call 31; (with_reducible refine (stream_Check.calls a0_0 a0_1 a0_2 _ _ l0_3 t352 _ ?side1 ?side2 A184.out).mono ?_); (case side1 => exact Cz.cb HR0_3); (case side2 => exact HC0_3.out); rintro e w244 ⟨rfl, hb⟩; replace HO345 := Cz.rb HO345 hb; replace HO350 := Cz.rb HO350 hb; replace BK295 := Cz.bk BK295 hb; replace BK347 := Cz.bk BK347 hb; replace HB := Cz.bs (w := w) hb; (try clear hb); obtain ⟨z245_0, z245_1, z245_2, z245_3, y245_0, y245_1, y245_2, y245_3⟩ := Cz.d4 BK347) | (go_at_call 31; (with_reducible refine (stream_Check.calls t340 t341 t342 _ _ t343 true _ ?side1 ?side2 A234.out).mono ?_); (case side1 => repeat (first | exact (Kd.R_reads' HO345.out).2.2 | (with_reducible refine Kd.C_alloc ?_ _) | (with_reducible refine Kd.C_drewN ?_ _) | (with_reducible refine Kd.C_drew ?_))); (case side2 => exact (Kd.R_reads' HO345.out).2.1); rintro e w246 ⟨rfl, hb⟩; replace HO345 := Cz.rb HO345 hb; replace HO350 := Cz.rb HO350 hb; replace BK295 := Cz.bk BK295 hb; replace BK347 := Cz.bk BK347 hb; replace HB := Cz.bs (w := w) hb; (try clear hb); have hcv247 := own_string (P := Try.prog) Try.underlying27 Try.underlying5 Try.underlying9 (Kd.own_of_R HO350.out); (try have hcvd248 := fun (n_ : Nat) => own_string (P := Try.prog) Try.underlying27 Try.underlying5 Try.underlying9 (Kd.own_of_R (Kd.R_drewN HO350.out n_))); have hcv249 := Kd.C_string (P := Try.prog) (A := A1) (c := c1) Try.underlying27 Try.underlying5 Try.underlying9 (Kd.C_below HR1.out HB.out); (try have hcvd250 := fun (n_ : Nat) => Kd.C_string (P := Try.prog) (A := A1) (c := c1) Try.underlying27 Try.underlying5 Try.underlying9 (Kd.C_drewN (Kd.C_below HR1.out HB.out) n_))))
            go_ret
            exact ⟨by first | rfl | (exact congrArg (fun z_ => Ending.returned (Value.bool z_)) HRT.out) | (rw [HRT.out]; done) | (simp [errW_none, errW_some] <;> rfl) | (simp [*, errW_none, errW_some] <;> rfl), Cz.bl (w := w)⟩
           ·rw [if_neg c236] at H
            first | exact absurd H (by simp; done) | skip
          ·replace c235 := Bool.eq_false_iff.mpr c235
           subst c235
           have H1 : (some false) = some true := by rw [if_neg (show ¬ (false = true) by decide)] at H <;> exact H
           exact absurd H1 (by simp)
       ·rw [if_neg c185] at H
        first | exact absurd H (by simp; done) | skip
      ·replace c183 := Bool.eq_false_iff.mpr c183
       subst c183
       have H1 : (some false) = some true := by rw [if_neg (show ¬ (false = true) by decide)] at H <;> exact H
       exact absurd H1 (by simp)
end Go.Proofs.Ytohkmmbmfhficaa.PM
