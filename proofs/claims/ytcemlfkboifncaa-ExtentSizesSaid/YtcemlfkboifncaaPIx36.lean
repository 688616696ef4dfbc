/- Functions of the program as Lean functions, and that the Go code comes to just their answers: no condition but that the function says so. (Written by a program of this workplace over the kit's print, with contracts by hand.) -/
import Derived.Test.YtcemlfkboifncaaPIx14
import Derived.Test.YtcemlfkboifncaaPIx34
import Derived.Test.YtcemlfkboifncaaPIx30
import Derived.Test.YtcemlfkboifncaaPIx31
namespace Go.Proofs.Ytcemlfkboifncaa.PI
open Go.RowKit Go.Proofs.YtcemlfkboifncaaW.PrintWords Go.Proofs.YtcemlfkboifncaaW.PrintLast Go.Proofs.YtcemlfkboifncaaW.PrintMore
attribute [local go_sem] max2_int min2_int max_two min_two max_three min_three max_four min_four   -- for this text's walks alone
set_option linter.unusedVariables false
set_option linter.unusedSimpArgs false

/-! ### waggonerlaw07_awake: function 32 -/
def waggonerlaw07_awake.f : Option Bool := some true
theorem waggonerlaw07_awake.tells : waggonerlaw07_awake_p.f = some true := by kernel_rfl
theorem waggonerlaw07_awake.calls (r : Bool) (w : World) (h : waggonerlaw07_awake.f = some r) :
  Calls Try.prog 32 #[] w fun e w' => e = .returned (.bool r) ∧ Below w.heap.size w w' := by
 unfold waggonerlaw07_awake.f at h
 obtain rfl := Option.some.inj h
 exact waggonerlaw07_awake_p.calls true rfl w waggonerlaw07_awake.tells
/-! ### waggonerlaw07_ExtentSizes: function 16 -/
def waggonerlaw07_ExtentSizes.l0 : Nat → List (S46) → Int → Bool → Int → Int → Option (Bool)
 | 0, _, _, _, _, _ => none
 | k + 1, x0, x1, x5, x6, x7 => if x7 < (x0.length : Int) then (if 0 ≤ x7 then (if (((rd_T46 x0 x7).f4).length : Int) > 3000 then (some x5) else (waggonerlaw07_ExtentSizes.l0 k x0 x1 x5 (wrap64 ((wrap64 (x6 + 7)) + (((rd_T46 x0 x7).f4).length : Int))) (wrap64 (x7 + 1)))) else (none)) else ((extent_Write.f x0).bind fun bt237 => (if bt237.2 = 0 then (if (mx 1 (bt237.1.length : Int)) = 0 then (none) else (if 0 ≤ (Int.tmod (wrap64 (x1)) (mx 1 (bt237.1.length : Int))) then (if (Int.tmod (wrap64 (x1)) (mx 1 (bt237.1.length : Int))) ≤ (bt237.1.length : Int) then ((extent_Read.f (bt237.1.take ((Int.tmod (wrap64 (x1)) (mx 1 (bt237.1.length : Int))) : Int).toNat)).bind fun bt245 => (if x5 = true then (if (bt237.1.length : Int) = x6 then (if bt245.2 = 70 then (some ((bt245.1.length : Int) == 0)) else (some false)) else (some false)) else (some false))) else (none)) else (none))) else (if x5 = true then (if bt237.2 = 70 then (some ((bt237.1.length : Int) == 0)) else (some false)) else (some false))))
def waggonerlaw07_ExtentSizes.f (k : Nat) (l0 : List (S46)) (a1 : Int) : Option (Bool) := (waggonerlaw07_awake.f).bind fun t234 => (if (l0.length : Int) > 64 then (some t234) else (waggonerlaw07_ExtentSizes.l0 k l0 a1 t234 1 0))
theorem waggonerlaw07_ExtentSizes.mono_l : ∀ k, (∀ y0 y1 y2 y3 y4, LeO (waggonerlaw07_ExtentSizes.l0 k y0 y1 y2 y3 y4) (waggonerlaw07_ExtentSizes.l0 (k + 1) y0 y1 y2 y3 y4))
 | 0 => fun _ _ _ _ _ r h => by simp [waggonerlaw07_ExtentSizes.l0] at h
 | k + 1 => by
  have ih0 := waggonerlaw07_ExtentSizes.mono_l k
  ·intro y0 y1 y2 y3 y4
   unfold waggonerlaw07_ExtentSizes.l0
   repeat' first
   | (with_reducible exact ih0 _ _ _ _ _)
   | (with_reducible exact LeO.refl _)
   | (with_reducible exact LeO.none _)
   | (with_reducible refine LeO.ite ?_ ?_)
   | (with_reducible refine LeO.bind ?_ (fun _ => ?_))
   | exact ih0 _ _ _ _ _
   | exact LeO.none _
   | refine LeO.ite ?_ ?_
   | refine LeO.bind ?_ (fun _ => ?_)
theorem waggonerlaw07_ExtentSizes.mono : ∀ a0 a1 k, LeO (waggonerlaw07_ExtentSizes.f k a0 a1) (waggonerlaw07_ExtentSizes.f (k + 1) a0 a1) := by
 intro a0 a1 k
 have ih0 := waggonerlaw07_ExtentSizes.mono_l k
 unfold waggonerlaw07_ExtentSizes.f
 repeat' first
   | (with_reducible exact ih0 _ _ _ _ _)
   | (with_reducible exact LeO.refl _)
   | (with_reducible exact LeO.none _)
   | (with_reducible refine LeO.ite ?_ ?_)
   | (with_reducible refine LeO.bind ?_ (fun _ => ?_))
   | exact ih0 _ _ _ _ _
   | exact LeO.none _
   | refine LeO.ite ?_ ?_
   | refine LeO.bind ?_ (fun _ => ?_)
set_option maxHeartbeats 8000000 in
set_option maxRecDepth 100000 in
theorem waggonerlaw07_ExtentSizes.calls (k : Nat) (A0 : Option Addr) (c0 : Nat) (l0 : List (S46)) (a1 : Int) (r : Bool) (hT : r = true) (w : World) (hr0 : Kd.C k46 w A0 l0.length l0) (hc0 : l0.length ≤ c0) (h : waggonerlaw07_ExtentSizes.f k l0 a1 = some r) :
  Calls Try.prog 16 #[.slice A0 l0.length c0, .int .u16 a1] w fun e w' => e = .returned (.bool r) ∧ Below w.heap.size w w' := by
 subst hT
 have HR0 := Aside0.mk hr0
 have HC0 := Aside0.mk hc0
 clear hr0 hc0
 have HB := Aside0.mk (Below.refl w.heap.size w)
 have H : ((waggonerlaw07_awake.f).bind fun t234 => (if (l0.length : Int) > 64 then (some t234) else (waggonerlaw07_ExtentSizes.l0 k l0 a1 t234 1 0))) = some true := h
 clear h
 replace H := Option.bind_eq_some_iff.mp H
 obtain ⟨t234, A30, H⟩ := H
 replace H : (if (l0.length : Int) > 64 then (some t234) else (waggonerlaw07_ExtentSizes.l0 k l0 a1 t234 1 0)) = some true := H
 have A3 := Aside0.mk A30
 clear A30
 by_cases c4 : (l0.length : Int) > 64
 ·rw [if_pos c4] at H
  have c4b0 : decide (64 < (l0.length : Int)) = true := decide_eq_true c4
  have c4b1 : decide (64 < l0.length) = true := decide_eq_true (by omega)
  clear c4
  (have HRT := Aside0.mk (Option.some.inj H); clear H)
  go_enter Try.func16, Try.ntmps16
  go_wp2_with (first | ((with_reducible refine gate_callee (f := 32) rfl ?_); refine goesL_ (some 12) rfl rfl Try.func32 (by kernel_rfl) rfl #[] rfl (by (try simp only [List.map_toArray, List.map_cons, List.map_nil]); first | done | rfl | (simp only [List.length_drop, List.length_take]; rfl)) ?_; (with_reducible refine (waggonerlaw07_awake.calls  t234 _ A3.out).mono ?_); rintro e w5 ⟨rfl, hb⟩; refine ⟨_, rfl, ?_⟩; have n0_ := Aside0.mk (below_step (by repeat (first | (with_reducible first | exact HB.out | apply below_alloc | apply pw_below_drewN | apply below_drew1) | exact HB.out)) hb); clear HB; have HB := n0_; clear n0_; (try clear hb); (try clear hb2); (try clear hk); (try clear hi)))
  go_ret
  exact ⟨by first | rfl | (exact congrArg (fun z_ => Ending.returned (Value.bool z_)) HRT.out) | (rw [HRT.out]; done) | (simp [errW_none, errW_some] <;> rfl) | (simp [*, errW_none, errW_some] <;> rfl), by repeat (first | (with_reducible first | exact HB.out | apply below_alloc | apply pw_below_drewN | apply below_drew1) | exact HB.out)⟩
 ·rw [if_neg c4] at H
  have c4b0 : decide (64 < (l0.length : Int)) = false := decide_eq_false c4
  have c4b1 : decide (64 < l0.length) = false := decide_eq_false (by omega)
  clear c4
  have H' := Aside0.mk H
  clear H
  go_enter Try.func16, Try.ntmps16
  go_wp2_with (first | ((with_reducible refine gate_callee (f := 32) rfl ?_); refine goesL_ (some 12) rfl rfl Try.func32 (by kernel_rfl) rfl #[] rfl (by (try simp only [List.map_toArray, List.map_cons, List.map_nil]); first | done | rfl | (simp only [List.length_drop, List.length_take]; rfl)) ?_; (with_reducible refine (waggonerlaw07_awake.calls  t234 _ A3.out).mono ?_); rintro e w6 ⟨rfl, hb⟩; refine ⟨_, rfl, ?_⟩; have n0_ := Aside0.mk (below_step (by repeat (first | (with_reducible first | exact HB.out | apply below_alloc | apply pw_below_drewN | apply below_drew1) | exact HB.out)) hb); clear HB; have HB := n0_; clear n0_; (try clear hb); (try clear hb2); (try clear hk); (try clear hi)))
  go_loopg [6, 7] k (fun kq v6 v7 w' => ∃ (x6_1 : Int) (x7_1 : Int), v6 = .int .i64 x6_1 ∧ v7 = .int .i64 x7_1 ∧ Aside0 (waggonerlaw07_ExtentSizes.l0 kq l0 a1 t234 x6_1 x7_1 = some true) ∧ Aside0 (kq ≤ k) ∧ Aside0 (Below w.heap.size w w'))
  case atStart => exact ⟨(1), (0), (by first | rfl | (simp; done) | (simp [*]; done)), (by first | rfl | (simp; done) | (simp [*]; done)), H', ⟨Nat.le_refl _⟩, ⟨by repeat (first | (with_reducible first | exact HB.out | apply below_alloc | apply pw_below_drewN | apply below_drew1) | exact HB.out)⟩⟩
  case round =>
   clear H'
   try clear c1
   try clear p2
   try clear c3
   try clear c4
   try clear c4b0
   try clear c4b1
   obtain ⟨x6_1, x7_1, rfl, rfl, HA, HK1, HB⟩ := hrel
   cases gk with
   | zero => exact absurd HA.out (by simp [waggonerlaw07_ExtentSizes.l0])
   | succ k1 =>
    have H := HA.out
    clear HA
    simp only [waggonerlaw07_ExtentSizes.l0] at H
    by_cases c7 : x7_1 < (l0.length : Int)
    ·rw [if_pos c7] at H
     have c7b0 : decide (x7_1 < (l0.length : Int)) = true := decide_eq_true c7
     clear c7
     by_cases c8 : 0 ≤ x7_1
     ·rw [if_pos c8] at H
      have c8b0 : decide (0 ≤ x7_1) = true := decide_eq_true c8
      clear c8
      by_cases c9 : (((rd_T46 l0 x7_1).f4).length : Int) > 3000
      ·rw [if_pos c9] at H
       have c9b0 : decide (3000 < (((rd_T46 l0 x7_1).f4).length : Int)) = true := decide_eq_true c9
       have c9b1 : decide (3000 < ((rd_T46 l0 x7_1).f4).length) = true := decide_eq_true (by omega)
       clear c9
       (have HRT := Aside0.mk (Option.some.inj H); clear H)
       have p235 : 0 ≤ (x7_1 : Int) := of_decide_eq_true (by first | (with_reducible assumption) | assumption)
       have q235 : x7_1 < (l0.length : Int) := of_decide_eq_true (by first | (with_reducible assumption) | assumption)
       obtain ⟨ad235, A235_4, c235_4, e235, hx235_0, hx235_1, hx235_2, hx235_3, hx235_4, hl235_4, hi235_4⟩ := at_T46 HR0.out x7_1 p235 q235
       cases e235
       replace hx235_0 := (HB.out.cell (World.block_lt_of_cell? w _ hx235_0)).trans hx235_0
       replace hx235_1 := (HB.out.cell (World.block_lt_of_cell? w _ hx235_1)).trans hx235_1
       replace hx235_2 := (HB.out.cell (World.block_lt_of_cell? w _ hx235_2)).trans hx235_2
       replace hx235_3 := (HB.out.cell (World.block_lt_of_cell? w _ hx235_3)).trans hx235_3
       replace hx235_4 := (HB.out.cell (World.block_lt_of_cell? w _ hx235_4)).trans hx235_4
       have HR235_4 := Aside0.mk hi235_4
       have HC235_4 := Aside0.mk hl235_4
       clear hi235_4 hl235_4
       replace p235 := eq_true p235
       replace q235 := eq_true q235
       go_wp2
       go_ret
       exact ⟨by first | rfl | (exact congrArg (fun z_ => Ending.returned (Value.bool z_)) HRT.out) | (rw [HRT.out]; done) | (simp [errW_none, errW_some] <;> rfl) | (simp [*, errW_none, errW_some] <;> rfl), by repeat (first | (with_reducible first | exact HB.out | apply below_alloc | apply pw_below_drewN | apply below_drew1) | exact HB.out)⟩
      ·rw [if_neg c9] at H
       have c9b0 : decide (3000 < (((rd_T46 l0 x7_1).f4).length : Int)) = false := decide_eq_false c9
       have c9b1 : decide (3000 < ((rd_T46 l0 x7_1).f4).length) = false := decide_eq_false (by omega)
       clear c9
       have H' := Aside0.mk H
       clear H
       have p235 : 0 ≤ (x7_1 : Int) := of_decide_eq_true (by first | (with_reducible assumption) | assumption)
       have q235 : x7_1 < (l0.length : Int) := of_decide_eq_true (by first | (with_reducible assumption) | assumption)
       obtain ⟨ad235, A235_4, c235_4, e235, hx235_0, hx235_1, hx235_2, hx235_3, hx235_4, hl235_4, hi235_4⟩ := at_T46 HR0.out x7_1 p235 q235
       cases e235
       replace hx235_0 := (HB.out.cell (World.block_lt_of_cell? w _ hx235_0)).trans hx235_0
       replace hx235_1 := (HB.out.cell (World.block_lt_of_cell? w _ hx235_1)).trans hx235_1
       replace hx235_2 := (HB.out.cell (World.block_lt_of_cell? w _ hx235_2)).trans hx235_2
       replace hx235_3 := (HB.out.cell (World.block_lt_of_cell? w _ hx235_3)).trans hx235_3
       replace hx235_4 := (HB.out.cell (World.block_lt_of_cell? w _ hx235_4)).trans hx235_4
       have HR235_4 := Aside0.mk hi235_4
       have HC235_4 := Aside0.mk hl235_4
       clear hi235_4 hl235_4
       replace p235 := eq_true p235
       replace q235 := eq_true q235
       have p236 : 0 ≤ (x7_1 : Int) := of_decide_eq_true (by first | (with_reducible assumption) | assumption)
       have q236 : x7_1 < (l0.length : Int) := of_decide_eq_true (by first | (with_reducible assumption) | assumption)
       obtain ⟨ad236, A236_4, c236_4, e236, hx236_0, hx236_1, hx236_2, hx236_3, hx236_4, hl236_4, hi236_4⟩ := at_T46 HR0.out x7_1 p236 q236
       obtain rfl : ad235 = ad236 := (by injection e236)
       replace hx236_0 := (HB.out.cell (World.block_lt_of_cell? w _ hx236_0)).trans hx236_0
       replace hx236_1 := (HB.out.cell (World.block_lt_of_cell? w _ hx236_1)).trans hx236_1
       replace hx236_2 := (HB.out.cell (World.block_lt_of_cell? w _ hx236_2)).trans hx236_2
       replace hx236_3 := (HB.out.cell (World.block_lt_of_cell? w _ hx236_3)).trans hx236_3
       replace hx236_4 := (HB.out.cell (World.block_lt_of_cell? w _ hx236_4)).trans hx236_4
       have HR236_4 := Aside0.mk hi236_4
       have HC236_4 := Aside0.mk hl236_4
       clear hi236_4 hl236_4
       replace p236 := eq_true p236
       replace q236 := eq_true q236
       have ea_ := Option.some.inj (hx235_4.symm.trans hx236_4)
       injection ea_ with ea_ en_ ec_
       subst ea_
       subst ec_
       clear en_
       go_wp2
       go_roundg k1
       case measure => have := HK1.out; omega
       case rel => exact ⟨(wrap64 ((wrap64 (x6_1 + 7)) + (((rd_T46 l0 x7_1).f4).length : Int))), (wrap64 (x7_1 + 1)), (by first | rfl | (simp; done) | (simp [*]; done)), (by first | rfl | (simp; done) | (simp [*]; done)), H', ⟨by have := HK1.out; omega⟩, ⟨by repeat (first | (with_reducible first | exact HB.out | apply below_alloc | apply pw_below_drewN | apply below_drew1) | exact HB.out)⟩⟩
     ·rw [if_neg c8] at H
      exact absurd H (by simp)
    ·rw [if_neg c7] at H
     have c7b0 : decide (x7_1 < (l0.length : Int)) = false := decide_eq_false c7
     clear c7
     replace H := Option.bind_eq_some_iff.mp H
     obtain ⟨⟨t237, t238⟩, A100, H⟩ := H
     replace H : (if t238 = 0 then (if (mx 1 (t237.length : Int)) = 0 then (none) else (if 0 ≤ (Int.tmod (wrap64 (a1)) (mx 1 (t237.length : Int))) then (if (Int.tmod (wrap64 (a1)) (mx 1 (t237.length : Int))) ≤ (t237.length : Int) then ((extent_Read.f (t237.take ((Int.tmod (wrap64 (a1)) (mx 1 (t237.length : Int))) : Int).toNat)).bind fun bt245 => (if t234 = true then (if (t237.length : Int) = x6_1 then (if bt245.2 = 70 then (some ((bt245.1.length : Int) == 0)) else (some false)) else (some false)) else (some false))) else (none)) else (none))) else (if t234 = true then (if t238 = 70 then (some ((t237.length : Int) == 0)) else (some false)) else (some false))) = some true := H
     have A10 := Aside0.mk A100
     clear A100
     by_cases c11 : t238 = 0
     ·rw [if_pos c11] at H
      have c11b0 : (t238 == 0) = true := beq_iff_eq.mpr c11
      have c11b1 : (t238 != 0) = false := bne_eq_false_iff_eq.mpr c11
      clear c11
      obtain ⟨ji12, hji12⟩ : ∃ j_ : Int, (mx 1 (t237.length : Int)) = j_ := ⟨_, rfl⟩
      replace H : (if (ji12) = 0 then (none) else (if 0 ≤ (Int.tmod (wrap64 (a1)) (ji12)) then (if (Int.tmod (wrap64 (a1)) (ji12)) ≤ (t237.length : Int) then ((extent_Read.f (t237.take ((Int.tmod (wrap64 (a1)) (ji12)) : Int).toNat)).bind fun bt245 => (if t234 = true then (if (t237.length : Int) = x6_1 then (if bt245.2 = 70 then (some ((bt245.1.length : Int) == 0)) else (some false)) else (some false)) else (some false))) else (none)) else (none))) = some true := by first | (rw [hji12] at H; exact H) | (simp only [hji12] at H ⊢; exact H)
      (try rw [hji12] at A10)
      (try (have hji12l : 1 ≤ ji12 := by (rw [← hji12]; unfold mx; (repeat' split) <;> omega)))
      (try (have hji12m : 0 ≤ ji12 := by omega))
      have hji12_ : (if 1 < (t237.length : Int) then (t237.length : Int) else 1) = ji12 := hji12
      (try (have hji12n : (if 1 < t237.length then (t237.length : Int) else 1) = ji12 := by (rw [← hji12_]; exact ite_congr (propext (by omega)) (fun _ => rfl) (fun _ => rfl))))
      by_cases c13 : (ji12) = 0
      ·rw [if_pos c13] at H
       exact absurd H (by simp)
      ·rw [if_neg c13] at H
       have c13b0 : ((ji12) == 0) = false := beq_eq_false_iff_ne.mpr c13
       have c13b1 : ((ji12) != 0) = true := bne_iff_ne.mpr c13
       obtain ⟨ji14, hji14⟩ : ∃ j_ : Int, (Int.tmod (wrap64 (a1)) (ji12)) = j_ := ⟨_, rfl⟩
       replace H : (if 0 ≤ (ji14) then (if (ji14) ≤ (t237.length : Int) then ((extent_Read.f (t237.take ((ji14) : Int).toNat)).bind fun bt245 => (if t234 = true then (if (t237.length : Int) = x6_1 then (if bt245.2 = 70 then (some ((bt245.1.length : Int) == 0)) else (some false)) else (some false)) else (some false))) else (none)) else (none)) = some true := by first | (rw [hji14] at H; exact H) | (simp only [hji14] at H ⊢; exact H)
       (try rw [hji14] at A10)
       by_cases c15 : 0 ≤ (ji14)
       ·rw [if_pos c15] at H
        have c15b0 := eq_true c15
        have c15b1 : decide (0 ≤ (ji14)) = true := decide_eq_true c15
        clear c15
        by_cases c16 : (ji14) ≤ (t237.length : Int)
        ·rw [if_pos c16] at H
         have c16b0 := eq_true c16
         have c16b1 : decide ((ji14) ≤ (t237.length : Int)) = true := decide_eq_true c16
         clear c16
         obtain ⟨y241, hy241⟩ : ∃ y_ : List Int, y_ = (t237.take ((ji14) : Int).toNat) := ⟨_, rfl⟩
         replace H : ((extent_Read.f y241).bind fun bt245 => (if t234 = true then (if (t237.length : Int) = x6_1 then (if bt245.2 = 70 then (some ((bt245.1.length : Int) == 0)) else (some false)) else (some false)) else (some false))) = some true := by first | (rw [hy241]; with_reducible exact H) | (have H2_ := (Option.bind_some _ _).symm.trans H; rw [hy241]; with_reducible exact H2_) | (have H2_ := (Option.bind_some _ _).symm.trans H; with_reducible exact H2_) | with_reducible exact H | (rw [hy241]; exact H) | exact H
         have Ny241 := Aside0.mk hy241
         clear hy241
         replace H := Option.bind_eq_some_iff.mp H
         obtain ⟨⟨t245, t246⟩, A170, H⟩ := H
         replace H : (if t234 = true then (if (t237.length : Int) = x6_1 then (if t246 = 70 then (some ((t245.length : Int) == 0)) else (some false)) else (some false)) else (some false)) = some true := H
         have A17 := Aside0.mk A170
         clear A170
         by_cases c18 : t234 = true
         ·subst c18
          have H1 : (if (t237.length : Int) = x6_1 then (if t246 = 70 then (some ((t245.length : Int) == 0)) else (some false)) else (some false)) = some true := by rw [if_pos rfl] at H <;> exact H
          clear H
          have H := H1
          clear H1
          by_cases c19 : (t237.length : Int) = x6_1
          ·rw [if_pos c19] at H
           have c19b0 : ((t237.length : Int) == x6_1) = true := beq_iff_eq.mpr c19
           have c19b1 : ((t237.length : Int) != x6_1) = false := bne_eq_false_iff_eq.mpr c19
           clear c19
           by_cases c20 : t246 = 70
           ·rw [if_pos c20] at H
            have c20b0 : (t246 == 70) = true := beq_iff_eq.mpr c20
            have c20b1 : (t246 != 70) = false := bne_eq_false_iff_eq.mpr c20
            clear c20
            (have HRT := Aside0.mk (Option.some.inj H); clear H)
            go_wp2_with (first | ((with_reducible refine gate_callee (f := 45) rfl ?_); refine goesL_ (some 42) rfl rfl Try.func45 (by kernel_rfl) rfl #[.slice A0 l0.length c0] rfl (by (try simp only [List.map_toArray, List.map_cons, List.map_nil]); first | done | rfl | (simp only [List.length_drop, List.length_take]; rfl)) ?_; (with_reducible refine (extent_Write.calls _ _ l0 t237 t238 _ ?side1 ?side2 A10.out).mono ?_); (case side1 => repeat (first | exact (Kd.C_below HR0.out HB.out) | (with_reducible refine Kd.C_alloc ?_ _) | (with_reducible refine Kd.C_drewN ?_ _) | (with_reducible refine Kd.C_drew ?_))); (case side2 => exact HC0.out); rintro e w21 ⟨v239, rfl, ho0, hb⟩; refine ⟨_, rfl, ?_⟩; have n0_ := Aside0.mk (Kd.R_lower ho0 (below_size (by repeat (first | (with_reducible first | exact HB.out | apply below_alloc | apply pw_below_drewN | apply below_drew1) | exact HB.out)))); have n1_ := Aside0.mk (below_step (by repeat (first | (with_reducible first | exact HB.out | apply below_alloc | apply pw_below_drewN | apply below_drew1) | exact HB.out)) hb); clear HB; have HO240 := n0_; have HB := n1_; clear n0_ n1_; (try clear hb); (try clear hb2); (try clear hk); (try clear hi); (try clear ho0); obtain ⟨Ao22, co22, eo22⟩ := Kd.R_slice HO240.out; subst eo22; have q23 : ((ji14) : Int) ≤ ((t237.length : Int) : Int) := of_decide_eq_true (by first | (with_reducible assumption) | assumption); obtain ⟨i023, hi023, _, hsz23, _⟩ := info_parts info5; have hroom23 : t237.length ≤ co22 := (Kd.R_reads' HO240.out).2.1; have hC23 : Kd.C (Kd.int .u8) _ Ao22 t237.length t237 := (Kd.R_reads' HO240.out).2.2; have hcut23 := cut_to (P := Try.prog) 23 5 .i64 Try.underlying23 hi023 Ao22 t237.length co22 (ji14) (of_decide_eq_true (by first | (with_reducible assumption) | assumption)) q23 hroom23; have hr23 := Kd.C_take (m := ((ji14) : Int).toNat) hC23 (by omega); have hy23 : y241.length = ((ji14) : Int).toNat := (by rw [Ny241.out, List.length_take]; omega); rw [← Ny241.out] at hr23; rw [← hy23] at hcut23; have HR244 := Aside0.mk hr23; have HC244 := Aside0.mk (show y241.length ≤ co22 from by omega); clear hr23 hC23 hroom23 hi023 hsz23; have KY23 := Aside0.mk hy23; clear hy23; have KL23 := Aside0.mk (show ((ji14) : Int).toNat ≤ t237.length from by omega); replace q23 := eq_true q23) | ((with_reducible refine gate_callee (f := 47) rfl ?_); refine goesL_ (some 66) rfl rfl Try.func47 (by kernel_rfl) rfl #[.slice Ao22 y241.length co22] rfl (by (try simp only [List.map_toArray, List.map_cons, List.map_nil]); first | done | rfl | (simp only [List.length_drop, List.length_take]; rfl)) ?_; (with_reducible refine (extent_Read.calls _ _ y241 t245 t246 _ ?side1 ?side2 A17.out).mono ?_); (case side1 => repeat (first | exact (by repeat (first | (with_reducible exact HR244.out) | (with_reducible refine Kd.C_alloc ?_ _) | (with_reducible refine Kd.C_drewN ?_ _) | (with_reducible refine Kd.C_drew ?_) | exact HR244.out)) | (with_reducible refine Kd.C_alloc ?_ _) | (with_reducible refine Kd.C_drewN ?_ _) | (with_reducible refine Kd.C_drew ?_))); (case side2 => exact HC244.out); rintro e w24 ⟨v247, rfl, ho0, hb⟩; refine ⟨_, rfl, ?_⟩; have n0_ := Aside0.mk (Kd.R_below (by (with_reducible repeat (first | apply Kd.R_alloc | apply Kd.R_drewN | apply Kd.R_drew)); exact HO240.out) hb); have n1_ := Aside0.mk (Kd.S_lower (Kd.S_new' ho0 (Kd.R_lt (by (with_reducible repeat (first | apply Kd.R_alloc | apply Kd.R_drewN | apply Kd.R_drew)); exact HO240.out))) (below_size (by repeat (first | (with_reducible first | exact HB.out | apply below_alloc | apply pw_below_drewN | apply below_drew1) | exact HB.out)))); have n2_ := Aside0.mk (Kd.C_below (by repeat (first | (with_reducible exact HR244.out) | (with_reducible refine Kd.C_alloc ?_ _) | (with_reducible refine Kd.C_drewN ?_ _) | (with_reducible refine Kd.C_drew ?_) | exact HR244.out)) hb); have n3_ := Aside0.mk (below_step (by repeat (first | (with_reducible first | exact HB.out | apply below_alloc | apply pw_below_drewN | apply below_drew1) | exact HB.out)) hb); clear HO240; clear HR244; clear HB; have HO240 := n0_; have HO248 := n1_; have HR244 := n2_; have HB := n3_; clear n0_ n1_ n2_ n3_; (try clear hb); (try clear hb2); (try clear hk); (try clear hi); (try clear ho0); obtain ⟨Ao25, co25, eo25⟩ := Kd.S_slice HO248.out; subst eo25))
            go_ret
            exact ⟨by first | rfl | (exact congrArg (fun z_ => Ending.returned (Value.bool z_)) HRT.out) | (rw [HRT.out]; done) | (simp [errW_none, errW_some] <;> rfl) | (simp only [← hji12, ← hji14]; first | rfl | (simp [errW_none, errW_some] <;> rfl)) | (simp [*, errW_none, errW_some] <;> rfl), by repeat (first | (with_reducible first | exact HB.out | apply below_alloc | apply pw_below_drewN | apply below_drew1) | exact HB.out)⟩
           ·rw [if_neg c20] at H
            first | exact absurd H (by simp; done) | skip
          ·rw [if_neg c19] at H
           first | exact absurd H (by simp; done) | skip
         ·replace c18 := Bool.eq_false_iff.mpr c18
          subst c18
          have H1 : (some false) = some true := by rw [if_neg (show ¬ (false = true) by decide)] at H <;> exact H
          exact absurd H1 (by simp)
        ·rw [if_neg c16] at H
         exact absurd H (by simp)
       ·rw [if_neg c15] at H
        exact absurd H (by simp)
     ·rw [if_neg c11] at H
      have c11b0 : (t238 == 0) = false := beq_eq_false_iff_ne.mpr c11
      have c11b1 : (t238 != 0) = true := bne_iff_ne.mpr c11
      by_cases c38 : t234 = true
      ·subst c38
       have H1 : (if t238 = 70 then (some ((t237.length : Int) == 0)) else (some false)) = some true := by rw [if_pos rfl] at H <;> exact H
       clear H
       have H := H1
       clear H1
       by_cases c39 : t238 = 70
       ·rw [if_pos c39] at H
        have c39b0 : (t238 == 70) = true := beq_iff_eq.mpr c39
        have c39b1 : (t238 != 70) = false := bne_eq_false_iff_eq.mpr c39
        clear c39
        (have HRT := Aside0.mk (Option.some.inj H); clear H)
        go_wp2_with (first | ((with_reducible refine gate_callee (f := 45) rfl ?_); refine goesL_ (some 42) rfl rfl Try.func45 (by kernel_rfl) rfl #[.slice A0 l0.length c0] rfl (by (try simp only [List.map_toArray, List.map_cons, List.map_nil]); first | done | rfl | (simp only [List.length_drop, List.length_take]; rfl)) ?_; (with_reducible refine (extent_Write.calls _ _ l0 t237 t238 _ ?side1 ?side2 A10.out).mono ?_); (case side1 => repeat (first | exact (Kd.C_below HR0.out HB.out) | (with_reducible refine Kd.C_alloc ?_ _) | (with_reducible refine Kd.C_drewN ?_ _) | (with_reducible refine Kd.C_drew ?_))); (case side2 => exact HC0.out); rintro e w40 ⟨v239, rfl, ho0, hb⟩; refine ⟨_, rfl, ?_⟩; have n0_ := Aside0.mk (Kd.R_lower ho0 (below_size (by repeat (first | (with_reducible first | exact HB.out | apply below_alloc | apply pw_below_drewN | apply below_drew1) | exact HB.out)))); have n1_ := Aside0.mk (below_step (by repeat (first | (with_reducible first | exact HB.out | apply below_alloc | apply pw_below_drewN | apply below_drew1) | exact HB.out)) hb); clear HB; have HO240 := n0_; have HB := n1_; clear n0_ n1_; (try clear hb); (try clear hb2); (try clear hk); (try clear hi); (try clear ho0); obtain ⟨Ao41, co41, eo41⟩ := Kd.R_slice HO240.out; subst eo41))
        go_ret
        exact ⟨by first | rfl | (exact congrArg (fun z_ => Ending.returned (Value.bool z_)) HRT.out) | (rw [HRT.out]; done) | (simp [errW_none, errW_some] <;> rfl) | (simp [*, errW_none, errW_some] <;> rfl), by repeat (first | (with_reducible first | exact HB.out | apply below_alloc | apply pw_below_drewN | apply below_drew1) | exact HB.out)⟩
       ·rw [if_neg c39] at H
        first | exact absurd H (by simp; done) | skip
      ·replace c38 := Bool.eq_false_iff.mpr c38
       subst c38
       have H1 : (some false) = some true := by rw [if_neg (show ¬ (false = true) by decide)] at H <;> exact H
       exact absurd H1 (by simp)
end Go.Proofs.Ytcemlfkboifncaa.PI
