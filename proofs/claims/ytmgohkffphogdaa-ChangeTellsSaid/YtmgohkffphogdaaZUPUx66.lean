/- Words and walks that this claim names, of those that the kit's print and programs of this workplace have printed. -/
import Derived.Test.YtmgohkffphogdaaZUCz
import Derived.Test.YtmgohkffphogdaaZUPUx15
import Derived.Test.YtmgohkffphogdaaZUPUx59
import Derived.Test.YtmgohkffphogdaaZUPUx65
namespace Go.Proofs.Ytmgohkffphogdaa.PU
open Go.Proofs.Ytmgohkffphogdaa Go.RowKit Go.Proofs.YtmgohkffphogdaaW.PrintWords Go.Proofs.YtmgohkffphogdaaW.PrintLast Go.Proofs.YtmgohkffphogdaaW.PrintMore
attribute [local go_sem] max2_int min2_int max_two min_two max_three min_three max_four min_four
set_option linter.unusedVariables false
set_option linter.unusedSimpArgs false
def waggonerref07_Read_p.l0 : Nat → List Int → List (S39) → Int → Int → Option ((List (S39)) × Int)
 | 0, _, _, _, _ => none
 | k + 1, x0, x4, x5, x6 => if 0 < (x0.length : Int) then (if x6 < (wrap64 (rd x0 0)) then (if (wrap64 ((x0.length : Int) - x5)) < 7 then (some (([] : List (S39)), 70)) else (if 0 ≤ x5 then (if x5 ≤ (wrap64 (x5 + 7)) then (if (wrap64 (x5 + 7)) ≤ (x0.length : Int) then ((waggonerref01_Unpack.f (⟨#[98, 98, 98, 119]⟩ : ByteArray) ((x0.take ((wrap64 (x5 + 7)) : Int).toNat).drop (x5 : Int).toNat)).bind fun bt329 => (if 0 < (bt329.1.length : Int) then (if 1 < (bt329.1.length : Int) then (if 2 < (bt329.1.length : Int) then (if 3 < (bt329.1.length : Int) then (if (wrap64 (rd bt329.1 2)) = 2 then (if (wrap64 ((x0.length : Int) - (wrap64 (x5 + 7)))) < (wrap64 (32 * (wrap64 (rd bt329.1 1)))) then (some (([] : List (S39)), 70)) else ((some (([] : List Int) : List Int)).bind fun y338 => (if 0 ≤ (wrap64 (x5 + 7)) then (if (wrap64 (x5 + 7)) ≤ (wrap64 ((wrap64 (x5 + 7)) + (wrap64 (32 * (wrap64 (rd bt329.1 1)))))) then (if (wrap64 ((wrap64 (x5 + 7)) + (wrap64 (32 * (wrap64 (rd bt329.1 1)))))) ≤ (x0.length : Int) then (if y338.length + ((x0.take ((wrap64 ((wrap64 (x5 + 7)) + (wrap64 (32 * (wrap64 (rd bt329.1 1)))))) : Int).toNat).drop ((wrap64 (x5 + 7)) : Int).toNat).length < 140737488355328 then (if x4.length < 2513169434916 then (waggonerref07_Read_p.l0 k x0 (x4 ++ [(⟨wrap64 (rd bt329.1 0), wrap64 (rd bt329.1 1), wrap64 (rd bt329.1 2), wrap64 (rd bt329.1 3), (y338 ++ ((x0.take ((wrap64 ((wrap64 (x5 + 7)) + (wrap64 (32 * (wrap64 (rd bt329.1 1)))))) : Int).toNat).drop ((wrap64 (x5 + 7)) : Int).toNat))⟩ : S39)]) (wrap64 ((wrap64 (x5 + 7)) + (wrap64 (32 * (wrap64 (rd bt329.1 1)))))) (wrap64 (x6 + 1))) else (none)) else (none)) else (none)) else (none)) else (none)))) else (if x4.length < 2513169434916 then (waggonerref07_Read_p.l0 k x0 (x4 ++ [(⟨wrap64 (rd bt329.1 0), wrap64 (rd bt329.1 1), wrap64 (rd bt329.1 2), wrap64 (rd bt329.1 3), ([] : List Int)⟩ : S39)]) (wrap64 (x5 + 7)) (wrap64 (x6 + 1))) else (none))) else (none)) else (none)) else (none)) else (none))) else (none)) else (none)) else (none))) else ((waggonerref07_Write.f x4).bind fun bt324 => (if bt324.2 = 0 then (if (strOfNums bt324.1).toList = (strOfNums x0).toList then (some (x4, 0)) else (some (([] : List (S39)), 70))) else (some (([] : List (S39)), 70))))) else (none)
def waggonerref07_Read_p.f (k : Nat) (l0 : List Int) : Option ((List (S39)) × Int) := if (l0.length : Int) = 0 then (some (([] : List (S39)), 70)) else (waggonerref07_Read_p.l0 k l0 ([] : List (S39)) 1 0)
def waggonerref07_Read_p.T11 : Bool × List (List Nat × List Nat) := (true, [([], []), ([0], [0]), ([1], [1]), ([2], [2]), ([], []), ([4], [4]), ([5], [5]), ([6], [6]), ([], []), ([8], [8]), ([9], [9]), ([10], [10]), ([], []), ([12], [12]), ([13], [13]), ([14], [14]), ([3, 7, 11, 15], [3, 7, 11, 15]), ([], []), ([17, 16, 0, 1, 2, 3, 4, 5, 6, 7, 8, 9, 10, 11, 12, 13, 14, 15, 16, 17], [16, 17])])
def waggonerref07_Read_p.B11 : List Nat := [0, 1, 3, 7, 0, 16, 48, 112, 0, 256, 768, 1792, 0, 4096, 12288, 28672, 65535, 0, 262143]
theorem waggonerref07_Read_p.tab11 : rtab .any (opsOf Try.f28 11) = waggonerref07_Read_p.T11 := by kernel_rfl
theorem waggonerref07_Read_p.bits11 : waitsOk waggonerref07_Read_p.T11.2 waggonerref07_Read_p.B11 = true := by kernel_rfl
set_option maxHeartbeats 8000000 in
set_option maxRecDepth 100000 in
theorem waggonerref07_Read_p.calls (k : Nat) (A0 : Option Addr) (c0 : Nat) (l0 : List Int) (r1 : List (S39)) (r2 : Int) (w : World) (hr0 : Kd.C (Kd.int .u8) w A0 l0.length l0) (hc0 : l0.length ≤ c0) (h : waggonerref07_Read_p.f k l0 = some (r1, r2)) :
  Calls Try.prog 28 #[.slice A0 l0.length c0] w fun e w' => ∃ v0_ : Value, e = .returned (.tuple #[v0_, .int .i64 r2]) ∧ Kd.S k39 39 w' w.heap.size (fun _ => True) v0_ r1 ∧ Below w.heap.size w w' := by
 have hu39 := Try.underlying39
 have HR0 := Aside0.mk hr0
 have HC0 := Aside0.mk hc0
 clear hr0 hc0
 have HB := Aside0.mk (Below.refl w.heap.size w)
 have H : (if (l0.length : Int) = 0 then (some (([] : List (S39)), 70)) else (waggonerref07_Read_p.l0 k l0 ([] : List (S39)) 1 0)) = some (r1, r2) := h
 clear h
 by_cases c2 : (l0.length : Int) = 0
 ·rw [if_pos c2] at H
  have c2b0 : ((l0.length : Int) == 0) = true := beq_iff_eq.mpr c2
  have c2b1 : ((l0.length : Int) != 0) = false := bne_eq_false_iff_eq.mpr c2
  clear c2
  simp only [Option.some.injEq, Prod.mk.injEq] at H
  obtain ⟨rfl, rfl⟩ := H
  go_enter Try.func28, Try.ntmps28
  go_wp2
  go_ret2
  exact ⟨_, Cz.er, by first | exact Kd.S_nil _ _ _ _ _ | exact Kd.N_nil _ _ _ _ _ | exact Kd.V_nil _ _ _ _ _ | exact Kd.Q_nil _ _ _ _ _ | exact Kd.R_nil _ _ _ _ _, Cz.bl (w := w)⟩
 ·rw [if_neg c2] at H
  have c2b0 : ((l0.length : Int) == 0) = false := beq_eq_false_iff_ne.mpr c2
  have c2b1 : ((l0.length : Int) != 0) = true := bne_iff_ne.mpr c2
  have c2b2 : ¬ (l0 = []) := fun h_ => c2 (by rw [h_]; rfl)
  have H' := Aside0.mk H
  clear H
  go_enter Try.func28, Try.ntmps28
  go_wp2
  go_loopg [4, 5, 6] k (fun kq v4 v5 v6 w' => ∃ (x4_1 : List (S39)) (x5_1 : Int) (x6_1 : Int), v5 = .int .i64 x5_1 ∧ v6 = .int .i64 x6_1 ∧ Aside0 (waggonerref07_Read_p.l0 kq l0 x4_1 x5_1 x6_1 = some (r1, r2)) ∧ Aside0 (kq ≤ k) ∧ Aside0 (Kd.S k39 39 w' w.heap.size (fun _ => True) v4 x4_1) ∧ Aside0 (Below w.heap.size w w'))
  case atStart => exact ⟨(([] : List (S39))), (1), (0), Cz.si, Cz.si, H', ⟨Nat.le_refl _⟩, ⟨by first | exact Kd.S_nil _ _ _ _ _ | exact Kd.N_nil _ _ _ _ _ | exact Kd.V_nil _ _ _ _ _ | exact Kd.Q_nil _ _ _ _ _ | exact Kd.R_nil _ _ _ _ _⟩, ⟨Cz.bl (w := w)⟩⟩
  case round =>
   clear H'
   try clear c2
   try clear c2b0
   try clear c2b1
   try clear c2b2
   try clear p2
   obtain ⟨x4_1, x5_1, x6_1, rfl, rfl, HA, HK1, HO_4, HB⟩ := hrel
   cases gk with
   | zero => exact absurd HA.out (by simp [waggonerref07_Read_p.l0])
   | succ k1 =>
    have H := HA.out
    clear HA
    simp only [waggonerref07_Read_p.l0] at H
    by_cases c3 : 0 < (l0.length : Int)
    ·rw [if_pos c3] at H
     have c3b0 : decide (0 < (l0.length : Int)) = true := decide_eq_true c3
     have c3b1 : decide (0 < l0.length) = true := decide_eq_true (by omega)
     clear c3
     by_cases c4 : x6_1 < (wrap64 (rd l0 0))
     ·rw [if_pos c4] at H
      have c4b0 : decide (x6_1 < (wrap64 (rd l0 0))) = true := decide_eq_true c4
      clear c4
      by_cases c5 : (wrap64 ((l0.length : Int) - x5_1)) < 7
      ·rw [if_pos c5] at H
       have c5b0 : decide ((wrap64 ((l0.length : Int) - x5_1)) < 7) = true := decide_eq_true c5
       clear c5
       simp only [Option.some.injEq, Prod.mk.injEq] at H
       obtain ⟨rfl, rfl⟩ := H
       have p323 : 0 ≤ (0 : Int) := (by omega)
       have q323 : 0 < (l0.length : Int) := of_decide_eq_true (by first | (with_reducible assumption) | assumption)
       obtain ⟨ad323, e323, hx323_0⟩ := Kd.at_int HR0.out 0 p323 q323
       cases e323
       have qi323 : (0 < l0.length) = True := eq_true (by omega)
       (try rw [show ((0 : Int)).toNat = 0 from rfl] at hx323_0)
       (try rw [Addr.add_zero'] at hx323_0)
       replace hx323_0 := (HB.out.cell (World.block_lt_of_cell? w _ hx323_0)).trans hx323_0
       replace p323 := eq_true p323
       replace q323 := eq_true q323
       go_wp2
       go_ret2
       exact ⟨_, Cz.er, by first | exact Kd.S_nil _ _ _ _ _ | exact Kd.N_nil _ _ _ _ _ | exact Kd.V_nil _ _ _ _ _ | exact Kd.Q_nil _ _ _ _ _ | exact Kd.R_nil _ _ _ _ _, Cz.bl (w := w)⟩
      ·rw [if_neg c5] at H
       have c5b0 : decide ((wrap64 ((l0.length : Int) - x5_1)) < 7) = false := decide_eq_false c5
       clear c5
       by_cases c6 : 0 ≤ x5_1
       ·rw [if_pos c6] at H
        have c6b0 := eq_true c6
        have c6b1 : decide (0 ≤ x5_1) = true := decide_eq_true c6
        clear c6
        by_cases c7 : x5_1 ≤ (wrap64 (x5_1 + 7))
        ·rw [if_pos c7] at H
         have c7b0 := eq_true c7
         have c7b1 : decide (x5_1 ≤ (wrap64 (x5_1 + 7))) = true := decide_eq_true c7
         by_cases c8 : (wrap64 (x5_1 + 7)) ≤ (l0.length : Int)
         ·rw [if_pos c8] at H
          have c8b0 := eq_true c8
          have c8b1 : decide ((wrap64 (x5_1 + 7)) ≤ (l0.length : Int)) = true := decide_eq_true c8
          replace H := Option.bind_eq_some_iff.mp H
          obtain ⟨⟨t329, t332⟩, A90, H⟩ := H
          (try dsimp only at H)
          have A9 := Aside0.mk A90
          clear A90
          by_cases c10 : 0 < (t329.length : Int)
          ·rw [if_pos c10] at H
           have c10b0 : decide (0 < (t329.length : Int)) = true := decide_eq_true c10
           have c10b1 : decide (0 < t329.length) = true := decide_eq_true (by omega)
           clear c10
           by_cases c11 : 1 < (t329.length : Int)
           ·rw [if_pos c11] at H
            have c11b0 : decide (1 < (t329.length : Int)) = true := decide_eq_true c11
            have c11b1 : decide (1 < t329.length) = true := decide_eq_true (by omega)
            clear c11
            by_cases c12 : 2 < (t329.length : Int)
            ·rw [if_pos c12] at H
             have c12b0 : decide (2 < (t329.length : Int)) = true := decide_eq_true c12
             have c12b1 : decide (2 < t329.length) = true := decide_eq_true (by omega)
             clear c12
             by_cases c13 : 3 < (t329.length : Int)
             ·rw [if_pos c13] at H
              have c13b0 : decide (3 < (t329.length : Int)) = true := decide_eq_true c13
              have c13b1 : decide (3 < t329.length) = true := decide_eq_true (by omega)
              clear c13
              by_cases c14 : (wrap64 (rd t329 2)) = 2
              ·rw [if_pos c14] at H
               have c14b0 : ((wrap64 (rd t329 2)) == 2) = true := beq_iff_eq.mpr c14
               have c14b1 : ((wrap64 (rd t329 2)) != 2) = false := bne_eq_false_iff_eq.mpr c14
               clear c14
               by_cases c15 : (wrap64 ((l0.length : Int) - (wrap64 (x5_1 + 7)))) < (wrap64 (32 * (wrap64 (rd t329 1))))
               ·rw [if_pos c15] at H
                have c15b0 : decide ((wrap64 ((l0.length : Int) - (wrap64 (x5_1 + 7)))) < (wrap64 (32 * (wrap64 (rd t329 1))))) = true := decide_eq_true c15
                clear c15
                simp only [Option.some.injEq, Prod.mk.injEq] at H
                obtain ⟨rfl, rfl⟩ := H
                have p323 : 0 ≤ (0 : Int) := (by omega)
                have q323 : 0 < (l0.length : Int) := of_decide_eq_true (by first | (with_reducible assumption) | assumption)
                obtain ⟨ad323, e323, hx323_0⟩ := Kd.at_int HR0.out 0 p323 q323
                cases e323
                have qi323 : (0 < l0.length) = True := eq_true (by omega)
                (try rw [show ((0 : Int)).toNat = 0 from rfl] at hx323_0)
                (try rw [Addr.add_zero'] at hx323_0)
                replace hx323_0 := (HB.out.cell (World.block_lt_of_cell? w _ hx323_0)).trans hx323_0
                replace p323 := eq_true p323
                replace q323 := eq_true q323
                obtain ⟨i016, hi016, _, hsz16, _⟩ := info_parts info5
                obtain ⟨A16, hcut16, hA16, hC16⟩ := print_mid_of (P := Try.prog) (Value.int .u8) 0 23 5 .i64 .i64 Try.underlying23 hi016 hsz16 (some ad323) c0 l0 x5_1 (wrap64 (x5_1 + 7)) (of_decide_eq_true (by first | (with_reducible assumption) | assumption)) (by first | omega | exact of_decide_eq_true (by first | (with_reducible assumption) | assumption)) (of_decide_eq_true (by first | (with_reducible assumption) | assumption)) HC0.out
                have HR328 := Aside0.mk (Kd.C_of_reads (h1 := fun _ => rfl) (hA16 _ (Kd.reads_of_C HR0.out)))
                have HC328 := Aside0.mk hC16
                clear hA16 hC16 hi016 hsz16
                try go_wp2_with (first | ((with_reducible refine gate_callee (f := 27) rfl ?_); refine goesL_ (some 34) rfl rfl Try.func27 (by kernel_rfl) rfl #[.string (⟨#[98, 98, 98, 119]⟩ : ByteArray), .slice A16 ((l0.take ((wrap64 (x5_1 + 7)) : Int).toNat).drop (x5_1 : Int).toNat).length (c0 - x5_1.toNat)] rfl (by (try simp only [List.map_toArray, List.map_cons, List.map_nil]); first | done | (rw [show ((l0.take ((wrap64 (x5_1 + 7)) : Int).toNat).drop (x5_1 : Int).toNat).length = ((wrap64 (x5_1 + 7)).toNat - x5_1.toNat) from (by rw [List.length_drop, List.length_take]; have h_ : ((wrap64 (x5_1 + 7)) : Int) ≤ (l0.length : Int) := of_decide_eq_true (by first | (with_reducible assumption) | assumption); omega)] <;> rfl) | rfl | (simp only [List.length_drop, List.length_take]; rfl)) ?_; (with_reducible refine (waggonerref01_Unpack.calls (⟨#[98, 98, 98, 119]⟩ : ByteArray) (fun k_ => k_ < w.heap.size) _ _ ((l0.take ((wrap64 (x5_1 + 7)) : Int).toNat).drop (x5_1 : Int).toNat) t329 t332 _ ?side1 A9.out).mono ?_); (case side1 => exact Kd.V_mk HC328.out (Kd.F_below (Kd.C_F (Kd.heap_int .u8) HR328.out) (Cz.bl (w := w)))); rintro e w17 ⟨v330, rfl, ho0, hb⟩; refine ⟨_, rfl, ?_⟩; have HO331 := Aside0.mk (Kd.R_lower (Kd.R_mono (ok' := fun k_ => True) ho0 (fun _ hk_ => trivial)) (below_size (Cz.bl (w := w)))); replace HO_4 := Cz.sb HO_4 hb; replace HB := Cz.bs (w := w) hb; (try clear hb); (try clear ho0)))
                replace HO_4 := Aside0.mk (Kd.S_drew HO_4.out)
                replace HO331 := Aside0.mk (Kd.R_drew HO331.out)
                replace HB := Aside0.mk (below_drew1 HB.out)
                obtain ⟨Ao19, co19, eo19⟩ := Kd.R_slice HO331.out
                (first | subst eo19 | (injection eo19 with f1_ f2_ f3_; have f4_ := f1_.symm; have f5_ := f3_.symm; clear f1_ f2_ f3_; subst f4_; subst f5_))
                have p333 : 0 ≤ (0 : Int) := (by omega)
                have q333 : 0 < (t329.length : Int) := of_decide_eq_true (by first | (with_reducible assumption) | assumption)
                obtain ⟨ad333, e333, hx333_0⟩ := Kd.at_int (Kd.R_reads' HO331.out).2.2 0 p333 q333
                cases e333
                have qi333 : (0 < t329.length) = True := eq_true (by omega)
                (try rw [show ((0 : Int)).toNat = 0 from rfl] at hx333_0)
                (try rw [Addr.add_zero'] at hx333_0)
                replace p333 := eq_true p333
                replace q333 := eq_true q333
                have p334 : 0 ≤ (1 : Int) := (by omega)
                have q334 : 1 < (t329.length : Int) := of_decide_eq_true (by first | (with_reducible assumption) | assumption)
                obtain ⟨ad334, e334, hx334_0⟩ := Kd.at_int (Kd.R_reads' HO331.out).2.2 1 p334 q334
                obtain rfl : ad333 = ad334 := (by injection e334)
                (try simp only [show (1 : Int).toNat = 1 from rfl, Nat.reduceMul, Nat.reduceEqDiff, Go.Addr.add, ↓reduceIte] at hx334_0)
                have qi334 : (1 < t329.length) = True := eq_true (by omega)
                (try rw [show ((1 : Int)).toNat = 1 from rfl] at hx334_0)
                replace p334 := eq_true p334
                replace q334 := eq_true q334
                have p335 : 0 ≤ (2 : Int) := (by omega)
                have q335 : 2 < (t329.length : Int) := of_decide_eq_true (by first | (with_reducible assumption) | assumption)
                obtain ⟨ad335, e335, hx335_0⟩ := Kd.at_int (Kd.R_reads' HO331.out).2.2 2 p335 q335
                obtain rfl : ad333 = ad335 := (by injection e335)
                (try simp only [show (2 : Int).toNat = 2 from rfl, Nat.reduceMul, Nat.reduceEqDiff, Go.Addr.add, ↓reduceIte] at hx335_0)
                have qi335 : (2 < t329.length) = True := eq_true (by omega)
                (try rw [show ((2 : Int)).toNat = 2 from rfl] at hx335_0)
                replace p335 := eq_true p335
                replace q335 := eq_true q335
                have p336 : 0 ≤ (3 : Int) := (by omega)
                have q336 : 3 < (t329.length : Int) := of_decide_eq_true (by first | (with_reducible assumption) | assumption)
                obtain ⟨ad336, e336, hx336_0⟩ := Kd.at_int (Kd.R_reads' HO331.out).2.2 3 p336 q336
                obtain rfl : ad333 = ad336 := (by injection e336)
                (try simp only [show (3 : Int).toNat = 3 from rfl, Nat.reduceMul, Nat.reduceEqDiff, Go.Addr.add, ↓reduceIte] at hx336_0)
                have qi336 : (3 < t329.length) = True := eq_true (by omega)
                (try rw [show ((3 : Int)).toNat = 3 from rfl] at hx336_0)
                replace p336 := eq_true p336
                replace q336 := eq_true q336
                refine start_ (n := 19) (S := fun w' => w'.cell? ad333 = some (.int .u64 (rd t329 0)) ∧ w'.cell? ⟨ad333.block, ad333.off + 1, none⟩ = some (.int .u64 (rd t329 1)) ∧ w'.cell? ⟨ad333.block, ad333.off + 2, none⟩ = some (.int .u64 (rd t329 2)) ∧ w'.cell? ⟨ad333.block, ad333.off + 3, none⟩ = some (.int .u64 (rd t329 3))) (ds := [18]) #[false, false, false, false, false, false, false, false, false, false, false, false, false, false, false, false, false, false, false] (by kernel_rfl) rfl rfl ⟨hx333_0, hx334_0, hx335_0, hx336_0⟩ (fun hHeld => ?_); refine with_tabW waggonerref07_Read_p.tab11 waggonerref07_Read_p.bits11 (fun HT_ HW_ => ?_)
                generalize w17.drew = w18 at HO_4 HO331 HB hx333_0 hx334_0 hx335_0 hx336_0 hHeld ⊢
                refine Cz.qP 0 37 HT_ ?_
                refine Cz.qP 1 38 HT_ ?_
                refine Cz.qP 4 41 HT_ ?_
                refine Cz.qP 5 42 HT_ ?_
                refine Cz.qP 8 45 HT_ ?_
                refine Cz.qP 9 46 HT_ ?_
                refine Cz.qP 12 49 HT_ ?_
                refine Cz.qP 13 50 HT_ ?_
                refine Cz.qT 2 39 HT_ HW_ hHeld ?_
                refine Cz.qP 3 40 HT_ ?_
                refine Cz.qT 6 43 HT_ HW_ hHeld ?_
                refine Cz.qP 7 44 HT_ ?_
                refine Cz.qT 10 47 HT_ HW_ hHeld ?_
                refine Cz.qP 11 48 HT_ ?_
                refine Cz.qT 14 51 HT_ HW_ hHeld ?_
                refine Cz.qP 15 52 HT_ ?_
                refine Cz.qP 16 53 HT_ ?_
                refine Cz.qO (N := some 9) 17 HT_ (fun K hK => ?_)
                refine box_step ?hg (N := 9) ?hd (cs := #[.int .i64 0, .int .i64 0, .int .i64 0, .int .i64 0, .slice none 0 0]) (t := 39) ?hr ?_; (case hd => rfl); (case hg => rfl); (case hr => first | (go_simp; done) | (go_simp; rfl))
                intro gb337 hg w20 hbox hb
                have HS0_ := (hb.cell (World.block_lt_of_cell? _ _ (hHeld.1))).trans (hHeld.1)
                have HS1_ := (hb.cell (World.block_lt_of_cell? _ _ (hHeld.2.1))).trans (hHeld.2.1)
                have HS2_ := (hb.cell (World.block_lt_of_cell? _ _ (hHeld.2.2.1))).trans (hHeld.2.2.1)
                have HS3_ := (hb.cell (World.block_lt_of_cell? _ _ (hHeld.2.2.2))).trans (hHeld.2.2.2)
                have BK337 := Aside0.mk (hbox)
                have GW337 := Aside0.mk ((Cz.gs hg : w.heap.size ≤ gb337))
                have GE337 := GW337
                replace HO_4 := Aside0.mk (Kd.S_below (Kd.S_elderB (by (with_reducible repeat (first | apply Kd.S_alloc | apply Kd.S_drewN | apply Kd.S_drew)); exact HO_4.out) gb337 (Nat.le_of_eq hg.symm)) hb)
                replace HO331 := Cz.rb HO331 hb
                replace HB := Cz.bs (w := w) hb
                clear hb hbox hg
                refine hK.out _ _ ⟨HS0_, HS1_, HS2_, HS3_⟩ (fun hHeld => ?_)
                clear hK K
                refine norm_ (a' := ?_) ?_ ?_
                rotate_left
                ·show Act.put _ (some 9) _ = _
                 simp only [Act.put, Kx.sb, Kx.sz, Kx.ss, i64_w, i32_w]
                 rfl
                refine last_ (i := 18) (N := none) #[true, true, true, true, true, true, true, true, true, true, true, true, true, true, true, true, true, true, true] rfl rfl (one_of HT_.out (by kernel_rfl)) (by decide) (fun K hK => ?_)
                have hs21 : w20.cell? ⟨gb337, 0, none⟩ = some (.int .i64 0) := (blk_cell BK337.out 0).trans rfl
                have hfs21 := blk_frozen BK337.out 0
                have hs22 : w20.cell? ⟨gb337, 1, none⟩ = some (.int .i64 0) := (blk_cell BK337.out 1).trans rfl
                have hfs22 := blk_frozen BK337.out 1
                have hs23 : w20.cell? ⟨gb337, 2, none⟩ = some (.int .i64 0) := (blk_cell BK337.out 2).trans rfl
                have hfs23 := blk_frozen BK337.out 2
                have hs24 : w20.cell? ⟨gb337, 3, none⟩ = some (.int .i64 0) := (blk_cell BK337.out 3).trans rfl
                have hfs24 := blk_frozen BK337.out 3
                have hs25 : w20.cell? ⟨gb337, 4, none⟩ = some (.slice none 0 0) := (blk_cell BK337.out 4).trans rfl
                have hfs25 := blk_frozen BK337.out 4
                refine skip_ (w1 := ?_) (by rfl) rfl ?_ ?_
                rotate_left
                ·go_simp
                 rfl
                refine hK.out _ _ ?_
                clear hK K
                refine done_ (done_of HT_.out (by kernel_rfl)) ?_
                obtain ⟨z26_0, z26_1, z26_2, z26_3, z26_4, y26_0, y26_1, y26_2, y26_3, y26_4⟩ := Cz.d5 BK337
                try go_wp2
                go_ret2
                exact ⟨_, Cz.er, by first | exact Kd.S_nil _ _ _ _ _ | exact Kd.N_nil _ _ _ _ _ | exact Kd.V_nil _ _ _ _ _ | exact Kd.Q_nil _ _ _ _ _ | exact Kd.R_nil _ _ _ _ _, Cz.bl (w := w)⟩
               ·rw [if_neg c15] at H
                have c15b0 : decide ((wrap64 ((l0.length : Int) - (wrap64 (x5_1 + 7)))) < (wrap64 (32 * (wrap64 (rd t329 1))))) = false := decide_eq_false c15
                clear c15
                obtain ⟨y338, hy338⟩ : ∃ y_ : List Int, y_ = (([] : List Int)) := ⟨_, rfl⟩
                replace H : (if 0 ≤ (wrap64 (x5_1 + 7)) then (if (wrap64 (x5_1 + 7)) ≤ (wrap64 ((wrap64 (x5_1 + 7)) + (wrap64 (32 * (wrap64 (rd t329 1)))))) then (if (wrap64 ((wrap64 (x5_1 + 7)) + (wrap64 (32 * (wrap64 (rd t329 1)))))) ≤ (l0.length : Int) then (if y338.length + ((l0.take ((wrap64 ((wrap64 (x5_1 + 7)) + (wrap64 (32 * (wrap64 (rd t329 1)))))) : Int).toNat).drop ((wrap64 (x5_1 + 7)) : Int).toNat).length < 140737488355328 then (if x4_1.length < 2513169434916 then (waggonerref07_Read_p.l0 k1 l0 (x4_1 ++ [(⟨wrap64 (rd t329 0), wrap64 (rd t329 1), wrap64 (rd t329 2), wrap64 (rd t329 3), (y338 ++ ((l0.take ((wrap64 ((wrap64 (x5_1 + 7)) + (wrap64 (32 * (wrap64 (rd t329 1)))))) : Int).toNat).drop ((wrap64 (x5_1 + 7)) : Int).toNat))⟩ : S39)]) (wrap64 ((wrap64 (x5_1 + 7)) + (wrap64 (32 * (wrap64 (rd t329 1)))))) (wrap64 (x6_1 + 1))) else (none)) else (none)) else (none)) else (none)) else (none)) = some (r1, r2) := by first | (rw [hy338]; with_reducible exact H) | (have H2_ := (Option.bind_some _ _).symm.trans H; rw [hy338]; with_reducible exact H2_) | (have H2_ := (Option.bind_some _ _).symm.trans H; with_reducible exact H2_) | with_reducible exact H | (rw [hy338]; exact H) | exact H
                have Ny338 := Aside0.mk hy338
                clear hy338
                obtain ⟨ji27, hji27⟩ : ∃ j_ : Int, (wrap64 (x5_1 + 7)) = j_ := ⟨_, rfl⟩
                replace H : (if 0 ≤ (ji27) then (if (ji27) ≤ (wrap64 ((ji27) + (wrap64 (32 * (wrap64 (rd t329 1)))))) then (if (wrap64 ((ji27) + (wrap64 (32 * (wrap64 (rd t329 1)))))) ≤ (l0.length : Int) then (if y338.length + ((l0.take ((wrap64 ((ji27) + (wrap64 (32 * (wrap64 (rd t329 1)))))) : Int).toNat).drop ((ji27) : Int).toNat).length < 140737488355328 then (if x4_1.length < 2513169434916 then (waggonerref07_Read_p.l0 k1 l0 (x4_1 ++ [(⟨wrap64 (rd t329 0), wrap64 (rd t329 1), wrap64 (rd t329 2), wrap64 (rd t329 3), (y338 ++ ((l0.take ((wrap64 ((ji27) + (wrap64 (32 * (wrap64 (rd t329 1)))))) : Int).toNat).drop ((ji27) : Int).toNat))⟩ : S39)]) (wrap64 ((ji27) + (wrap64 (32 * (wrap64 (rd t329 1)))))) (wrap64 (x6_1 + 1))) else (none)) else (none)) else (none)) else (none)) else (none)) = some (r1, r2) := by first | (rw [hji27] at H; exact H) | (simp only [hji27] at H ⊢; exact H)
                (try rw [hji27] at c7b0)
                (try rw [hji27] at c7b1)
                (try rw [hji27] at c7)
                (try rw [hji27] at c8b0)
                (try rw [hji27] at c8b1)
                (try rw [hji27] at c8)
                (try rw [hji27] at c15b0)
                (try rw [hji27] at A9)
                have hji27w : (IntKind.i64.wrap (x5_1 + 7)) = ji27 := (i64_w _).trans hji27
                by_cases c28 : 0 ≤ (ji27)
                ·rw [if_pos c28] at H
                 have c28b0 := eq_true c28
                 have c28b1 : decide (0 ≤ (ji27)) = true := decide_eq_true c28
                 clear c28
                 by_cases c29 : (ji27) ≤ (wrap64 ((ji27) + (wrap64 (32 * (wrap64 (rd t329 1))))))
                 ·rw [if_pos c29] at H
                  have c29b0 := eq_true c29
                  have c29b1 : decide ((ji27) ≤ (wrap64 ((ji27) + (wrap64 (32 * (wrap64 (rd t329 1))))))) = true := decide_eq_true c29
                  by_cases c30 : (wrap64 ((ji27) + (wrap64 (32 * (wrap64 (rd t329 1)))))) ≤ (l0.length : Int)
                  ·rw [if_pos c30] at H
                   have c30b0 := eq_true c30
                   have c30b1 : decide ((wrap64 ((ji27) + (wrap64 (32 * (wrap64 (rd t329 1)))))) ≤ (l0.length : Int)) = true := decide_eq_true c30
                   by_cases c31 : y338.length + ((l0.take ((wrap64 ((ji27) + (wrap64 (32 * (wrap64 (rd t329 1)))))) : Int).toNat).drop ((ji27) : Int).toNat).length < 140737488355328
                   ·rw [if_pos c31] at H
                    have LMc31 := Aside0.mk c31
                    clear c31
                    obtain ⟨y342, hy342⟩ : ∃ y_ : List Int, y_ = (y338 ++ ((l0.take ((wrap64 ((ji27) + (wrap64 (32 * (wrap64 (rd t329 1)))))) : Int).toNat).drop ((ji27) : Int).toNat)) := ⟨_, rfl⟩
                    replace H : (if x4_1.length < 2513169434916 then (waggonerref07_Read_p.l0 k1 l0 (x4_1 ++ [(⟨wrap64 (rd t329 0), wrap64 (rd t329 1), wrap64 (rd t329 2), wrap64 (rd t329 3), y342⟩ : S39)]) (wrap64 ((ji27) + (wrap64 (32 * (wrap64 (rd t329 1)))))) (wrap64 (x6_1 + 1))) else (none)) = some (r1, r2) := by first | (rw [hy342]; with_reducible exact H) | (have H2_ := (Option.bind_some _ _).symm.trans H; rw [hy342]; with_reducible exact H2_) | (have H2_ := (Option.bind_some _ _).symm.trans H; with_reducible exact H2_) | with_reducible exact H | (rw [hy342]; exact H) | exact H
                    have Ny342 := Aside0.mk hy342
                    clear hy342
                    by_cases c32 : x4_1.length < 2513169434916
                    ·rw [if_pos c32] at H
                     have LMc32 := Aside0.mk c32
                     clear c32
                     obtain ⟨y345, hy345⟩ : ∃ y_ : List (S39), y_ = (x4_1 ++ [(⟨wrap64 (rd t329 0), wrap64 (rd t329 1), wrap64 (rd t329 2), wrap64 (rd t329 3), y342⟩ : S39)]) := ⟨_, rfl⟩
                     replace H : (waggonerref07_Read_p.l0 k1 l0 y345 (wrap64 ((ji27) + (wrap64 (32 * (wrap64 (rd t329 1)))))) (wrap64 (x6_1 + 1))) = some (r1, r2) := by first | (rw [hy345]; with_reducible exact H) | (have H2_ := (Option.bind_some _ _).symm.trans H; rw [hy345]; with_reducible exact H2_) | (have H2_ := (Option.bind_some _ _).symm.trans H; with_reducible exact H2_) | with_reducible exact H | (rw [hy345]; exact H) | exact H
                     have Ny345 := Aside0.mk hy345
                     clear hy345
                     have H' := Aside0.mk H
                     clear H
                     have p323 : 0 ≤ (0 : Int) := (by omega)
                     have q323 : 0 < (l0.length : Int) := of_decide_eq_true (by first | (with_reducible assumption) | assumption)
                     obtain ⟨ad323, e323, hx323_0⟩ := Kd.at_int HR0.out 0 p323 q323
                     cases e323
                     have qi323 : (0 < l0.length) = True := eq_true (by omega)
                     (try rw [show ((0 : Int)).toNat = 0 from rfl] at hx323_0)
                     (try rw [Addr.add_zero'] at hx323_0)
                     replace hx323_0 := (HB.out.cell (World.block_lt_of_cell? w _ hx323_0)).trans hx323_0
                     replace p323 := eq_true p323
                     replace q323 := eq_true q323
                     obtain ⟨i033, hi033, _, hsz33, _⟩ := info_parts info5
                     obtain ⟨A33, hcut33, hA33, hC33⟩ := print_mid_of (P := Try.prog) (Value.int .u8) 0 23 5 .i64 .i64 Try.underlying23 hi033 hsz33 (some ad323) c0 l0 x5_1 (ji27) (of_decide_eq_true (by first | (with_reducible assumption) | assumption)) (by first | omega | exact of_decide_eq_true (by first | (with_reducible assumption) | assumption)) (of_decide_eq_true (by first | (with_reducible assumption) | assumption)) HC0.out
                     have HR328 := Aside0.mk (Kd.C_of_reads (h1 := fun _ => rfl) (hA33 _ (Kd.reads_of_C HR0.out)))
                     have HC328 := Aside0.mk hC33
                     clear hA33 hC33 hi033 hsz33
                     try go_wp2_with (first | ((with_reducible refine gate_callee (f := 27) rfl ?_); refine goesL_ (some 34) rfl rfl Try.func27 (by kernel_rfl) rfl #[.string (⟨#[98, 98, 98, 119]⟩ : ByteArray), .slice A33 ((l0.take ((ji27) : Int).toNat).drop (x5_1 : Int).toNat).length (c0 - x5_1.toNat)] rfl (by (try simp only [List.map_toArray, List.map_cons, List.map_nil]); first | done | (rw [show ((l0.take ((ji27) : Int).toNat).drop (x5_1 : Int).toNat).length = ((ji27).toNat - x5_1.toNat) from (by rw [List.length_drop, List.length_take]; have h_ : ((ji27) : Int) ≤ (l0.length : Int) := of_decide_eq_true (by first | (with_reducible assumption) | assumption); omega)] <;> rfl) | (simp only [hji27]; rfl) | rfl | (simp only [List.length_drop, List.length_take]; rfl)) ?_; (with_reducible refine (waggonerref01_Unpack.calls (⟨#[98, 98, 98, 119]⟩ : ByteArray) (fun k_ => k_ < w.heap.size) _ _ ((l0.take ((ji27) : Int).toNat).drop (x5_1 : Int).toNat) t329 t332 _ ?side1 A9.out).mono ?_); (case side1 => exact Kd.V_mk HC328.out (Kd.F_below (Kd.C_F (Kd.heap_int .u8) HR328.out) (Cz.bl (w := w)))); rintro e w34 ⟨v330, rfl, ho0, hb⟩; refine ⟨_, rfl, ?_⟩; have HO331 := Aside0.mk (Kd.R_lower (Kd.R_mono (ok' := fun k_ => True) ho0 (fun _ hk_ => trivial)) (below_size (Cz.bl (w := w)))); replace HO_4 := Cz.sb HO_4 hb; replace HB := Cz.bs (w := w) hb; (try clear hb); (try clear ho0)))
                     replace HO_4 := Aside0.mk (Kd.S_drew HO_4.out)
                     replace HO331 := Aside0.mk (Kd.R_drew HO331.out)
                     replace HB := Aside0.mk (below_drew1 HB.out)
                     obtain ⟨Ao36, co36, eo36⟩ := Kd.R_slice HO331.out
                     (first | subst eo36 | (injection eo36 with f1_ f2_ f3_; have f4_ := f1_.symm; have f5_ := f3_.symm; clear f1_ f2_ f3_; subst f4_; subst f5_))
                     have p333 : 0 ≤ (0 : Int) := (by omega)
                     have q333 : 0 < (t329.length : Int) := of_decide_eq_true (by first | (with_reducible assumption) | assumption)
                     obtain ⟨ad333, e333, hx333_0⟩ := Kd.at_int (Kd.R_reads' HO331.out).2.2 0 p333 q333
                     cases e333
                     have qi333 : (0 < t329.length) = True := eq_true (by omega)
                     (try rw [show ((0 : Int)).toNat = 0 from rfl] at hx333_0)
                     (try rw [Addr.add_zero'] at hx333_0)
                     replace p333 := eq_true p333
                     replace q333 := eq_true q333
                     have p334 : 0 ≤ (1 : Int) := (by omega)
                     have q334 : 1 < (t329.length : Int) := of_decide_eq_true (by first | (with_reducible assumption) | assumption)
                     obtain ⟨ad334, e334, hx334_0⟩ := Kd.at_int (Kd.R_reads' HO331.out).2.2 1 p334 q334
                     obtain rfl : ad333 = ad334 := (by injection e334)
                     (try simp only [show (1 : Int).toNat = 1 from rfl, Nat.reduceMul, Nat.reduceEqDiff, Go.Addr.add, ↓reduceIte] at hx334_0)
                     have qi334 : (1 < t329.length) = True := eq_true (by omega)
                     (try rw [show ((1 : Int)).toNat = 1 from rfl] at hx334_0)
                     replace p334 := eq_true p334
                     replace q334 := eq_true q334
                     have p335 : 0 ≤ (2 : Int) := (by omega)
                     have q335 : 2 < (t329.length : Int) := of_decide_eq_true (by first | (with_reducible assumption) | assumption)
                     obtain ⟨ad335, e335, hx335_0⟩ := Kd.at_int (Kd.R_reads' HO331.out).2.2 2 p335 q335
                     obtain rfl : ad333 = ad335 := (by injection e335)
                     (try simp only [show (2 : Int).toNat = 2 from rfl, Nat.reduceMul, Nat.reduceEqDiff, Go.Addr.add, ↓reduceIte] at hx335_0)
                     have qi335 : (2 < t329.length) = True := eq_true (by omega)
                     (try rw [show ((2 : Int)).toNat = 2 from rfl] at hx335_0)
                     replace p335 := eq_true p335
                     replace q335 := eq_true q335
                     have p336 : 0 ≤ (3 : Int) := (by omega)
                     have q336 : 3 < (t329.length : Int) := of_decide_eq_true (by first | (with_reducible assumption) | assumption)
                     obtain ⟨ad336, e336, hx336_0⟩ := Kd.at_int (Kd.R_reads' HO331.out).2.2 3 p336 q336
                     obtain rfl : ad333 = ad336 := (by injection e336)
                     (try simp only [show (3 : Int).toNat = 3 from rfl, Nat.reduceMul, Nat.reduceEqDiff, Go.Addr.add, ↓reduceIte] at hx336_0)
                     have qi336 : (3 < t329.length) = True := eq_true (by omega)
                     (try rw [show ((3 : Int)).toNat = 3 from rfl] at hx336_0)
                     replace p336 := eq_true p336
                     replace q336 := eq_true q336
                     refine start_ (n := 19) (S := fun w' => w'.cell? ad333 = some (.int .u64 (rd t329 0)) ∧ w'.cell? ⟨ad333.block, ad333.off + 1, none⟩ = some (.int .u64 (rd t329 1)) ∧ w'.cell? ⟨ad333.block, ad333.off + 2, none⟩ = some (.int .u64 (rd t329 2)) ∧ w'.cell? ⟨ad333.block, ad333.off + 3, none⟩ = some (.int .u64 (rd t329 3))) (ds := [18]) #[false, false, false, false, false, false, false, false, false, false, false, false, false, false, false, false, false, false, false] (by kernel_rfl) rfl rfl ⟨hx333_0, hx334_0, hx335_0, hx336_0⟩ (fun hHeld => ?_); refine with_tabW waggonerref07_Read_p.tab11 waggonerref07_Read_p.bits11 (fun HT_ HW_ => ?_)
                     generalize w34.drew = w35 at HO_4 HO331 HB hx333_0 hx334_0 hx335_0 hx336_0 hHeld ⊢
                     refine Cz.qP 0 37 HT_ ?_
                     refine Cz.qP 1 38 HT_ ?_
                     refine Cz.qP 4 41 HT_ ?_
                     refine Cz.qP 5 42 HT_ ?_
                     refine Cz.qP 8 45 HT_ ?_
                     refine Cz.qP 9 46 HT_ ?_
                     refine Cz.qP 12 49 HT_ ?_
                     refine Cz.qP 13 50 HT_ ?_
                     refine Cz.qT 2 39 HT_ HW_ hHeld ?_
                     refine Cz.qP 3 40 HT_ ?_
                     refine Cz.qT 6 43 HT_ HW_ hHeld ?_
                     refine Cz.qP 7 44 HT_ ?_
                     refine Cz.qT 10 47 HT_ HW_ hHeld ?_
                     refine Cz.qP 11 48 HT_ ?_
                     refine Cz.qT 14 51 HT_ HW_ hHeld ?_
                     refine Cz.qP 15 52 HT_ ?_
                     refine Cz.qP 16 53 HT_ ?_
                     refine Cz.qO (N := some 9) 17 HT_ (fun K hK => ?_)
                     refine box_step ?hg (N := 9) ?hd (cs := #[.int .i64 0, .int .i64 0, .int .i64 0, .int .i64 0, .slice none 0 0]) (t := 39) ?hr ?_; (case hd => rfl); (case hg => rfl); (case hr => first | (go_simp; done) | (go_simp; rfl))
                     intro gb337 hg w37 hbox hb
                     have HS0_ := (hb.cell (World.block_lt_of_cell? _ _ (hHeld.1))).trans (hHeld.1)
                     have HS1_ := (hb.cell (World.block_lt_of_cell? _ _ (hHeld.2.1))).trans (hHeld.2.1)
                     have HS2_ := (hb.cell (World.block_lt_of_cell? _ _ (hHeld.2.2.1))).trans (hHeld.2.2.1)
                     have HS3_ := (hb.cell (World.block_lt_of_cell? _ _ (hHeld.2.2.2))).trans (hHeld.2.2.2)
                     have BK337 := Aside0.mk (hbox)
                     have GW337 := Aside0.mk ((Cz.gs hg : w.heap.size ≤ gb337))
                     have GE337 := GW337
                     replace HO_4 := Aside0.mk (Kd.S_below (Kd.S_elderB (by (with_reducible repeat (first | apply Kd.S_alloc | apply Kd.S_drewN | apply Kd.S_drew)); exact HO_4.out) gb337 (Nat.le_of_eq hg.symm)) hb)
                     replace HO331 := Cz.rb HO331 hb
                     replace HB := Cz.bs (w := w) hb
                     clear hb hbox hg
                     refine hK.out _ _ ⟨HS0_, HS1_, HS2_, HS3_⟩ (fun hHeld => ?_)
                     clear hK K
                     refine norm_ (a' := ?_) ?_ ?_
                     rotate_left
                     ·show Act.put _ (some 9) _ = _
                      simp only [Act.put, Kx.sb, Kx.sz, Kx.ss, i64_w, i32_w]
                      rfl
                     refine last_ (i := 18) (N := none) #[true, true, true, true, true, true, true, true, true, true, true, true, true, true, true, true, true, true, true] rfl rfl (one_of HT_.out (by kernel_rfl)) (by decide) (fun K hK => ?_)
                     have hs38 : w37.cell? ⟨gb337, 0, none⟩ = some (.int .i64 0) := (blk_cell BK337.out 0).trans rfl
                     have hfs38 := blk_frozen BK337.out 0
                     have hs39 : w37.cell? ⟨gb337, 1, none⟩ = some (.int .i64 0) := (blk_cell BK337.out 1).trans rfl
                     have hfs39 := blk_frozen BK337.out 1
                     have hs40 : w37.cell? ⟨gb337, 2, none⟩ = some (.int .i64 0) := (blk_cell BK337.out 2).trans rfl
                     have hfs40 := blk_frozen BK337.out 2
                     have hs41 : w37.cell? ⟨gb337, 3, none⟩ = some (.int .i64 0) := (blk_cell BK337.out 3).trans rfl
                     have hfs41 := blk_frozen BK337.out 3
                     have hs42 : w37.cell? ⟨gb337, 4, none⟩ = some (.slice none 0 0) := (blk_cell BK337.out 4).trans rfl
                     have hfs42 := blk_frozen BK337.out 4
                     refine skip_ (w1 := ?_) (by rfl) rfl ?_ ?_
                     rotate_left
                     ·go_simp
                      rfl
                     refine hK.out _ _ ?_
                     clear hK K
                     refine done_ (done_of HT_.out (by kernel_rfl)) ?_
                     obtain ⟨z43_0, z43_1, z43_2, z43_3, z43_4, y43_0, y43_1, y43_2, y43_3, y43_4⟩ := Cz.d5 BK337
                     try go_wp2_with (first | ((with_reducible refine gate_dst (N := 67) rfl ?_); refine Kd.R_lit (Kd.int .u8) _ 5 ?hg (N := 67) ?hd (xs := ([] : List Int)) (inner := []) (ok := fun _ => True) (okp := fun _ => True) ?hr ?hp (fun _ hk => hk) trivial (Below.refl _ _) (Nat.le_refl _) (by simp) ?_; (case hd => rfl); (case hg => rfl); (case hr => first | (go_simp; done) | (go_simp; rfl)); (case hp => exact (Reps.none _ _)); intro v339 w44 ho45 hb hg_ hnew_; clear hg_ hnew_; (first | rw [← Ny338.out] at ho45 | (simp only [Int.reduceToNat] at ho45; rw [← Ny338.out] at ho45)); have HO340 := Aside0.mk (Kd.R_lower ho45 (below_size (Cz.bl (w := w)))); replace HO_4 := Aside0.mk (Kd.S_elder' (by (with_reducible repeat (first | apply Kd.S_alloc | apply Kd.S_drewN | apply Kd.S_drew)); exact (Kd.S_mono (Cz.sf (Cz.sf (Cz.sf (Cz.sf (Cz.sf (Kd.S_mono HO_4.out (fun k_ hk => (⟨hk, hk.2⟩ : _ ∧ k_ ≠ gb337)))))))) (fun _ h_ => h_.1))) (Kd.R_base ho45) hb); replace HO331 := Aside0.mk (Kd.R_below (by (with_reducible repeat (first | apply Kd.R_alloc | apply Kd.R_drewN | apply Kd.R_drew)); exact (Kd.R_mono (Cz.rf (Cz.rf (Cz.rf (Cz.rf (Cz.rf (Kd.R_types HO331.out BK337.out (by decide))))))) (fun _ h_ => h_.1))) hb); replace BK337 := Aside0.mk (blk_below (g := gb337) (o := .cells #[.int .i64 (wrap64 (rd t329 0)), .int .i64 (wrap64 (rd t329 1)), .int .i64 (wrap64 (rd t329 2)), .int .i64 (wrap64 (rd t329 3)), .slice none 0 0] 39 (0, 0)) (by (with_reducible repeat (first | refine blk_drewN ?_ _ | refine blk_drew ?_ | refine blk_alloc ?_ _)); apply Cz.a5; (with_reducible repeat (first | refine blk_drewN ?_ _ | refine blk_drew ?_ | refine blk_alloc ?_ _)); exact BK337.out) hb); replace HB := Cz.bs (w := w) hb; clear hb ho45; have z46_0 : w44.cell? ⟨gb337, 0, none⟩ = some (.int .i64 (wrap64 (rd t329 0))) := (blk_cell BK337.out 0).trans rfl; have z46_1 : w44.cell? ⟨gb337, 1, none⟩ = some (.int .i64 (wrap64 (rd t329 1))) := (blk_cell BK337.out 1).trans rfl; have z46_2 : w44.cell? ⟨gb337, 2, none⟩ = some (.int .i64 (wrap64 (rd t329 2))) := (blk_cell BK337.out 2).trans rfl; have z46_3 : w44.cell? ⟨gb337, 3, none⟩ = some (.int .i64 (wrap64 (rd t329 3))) := (blk_cell BK337.out 3).trans rfl; have z46_4 : w44.cell? ⟨gb337, 4, none⟩ = some (.slice none 0 0) := (blk_cell BK337.out 4).trans rfl; have y46_0 := blk_frozen BK337.out 0; have y46_1 := blk_frozen BK337.out 1; have y46_2 := blk_frozen BK337.out 2; have y46_3 := blk_frozen BK337.out 3; have y46_4 := blk_frozen BK337.out 4; obtain ⟨i047, hi047, _, hsz47, _⟩ := info_parts info5; obtain ⟨A47, hcut47, hA47, hC47⟩ := print_mid_of (P := Try.prog) (Value.int .u8) 0 23 5 .i64 .i64 Try.underlying23 hi047 hsz47 (some ad323) c0 l0 (ji27) (wrap64 ((ji27) + (wrap64 (32 * (wrap64 (rd t329 1)))))) (of_decide_eq_true (by first | (with_reducible assumption) | assumption)) (by first | omega | exact of_decide_eq_true (by first | (with_reducible assumption) | assumption)) (of_decide_eq_true (by first | (with_reducible assumption) | assumption)) HC0.out; have HR341 := Aside0.mk (Kd.C_of_reads (h1 := fun _ => rfl) (hA47 _ (Kd.reads_of_C HR0.out))); have HC341 := Aside0.mk hC47; clear hA47 hC47 hi047 hsz47) | ((with_reducible refine gate_builtin (b := .append) (xs := #[.tmp 67, .tmp 75]) rfl ?_); at_builtin; refine Kd.R_append_rows (Kd.int .u8) (w0 := w) w.heap.size rfl (.tmp 67) (.tmp 75) 23 5 (.int .u8 0) 1 rfl Try.underlying23 info5 rfl (by decide) (by omega) v339 y338 ((l0.take ((wrap64 ((ji27) + (wrap64 (32 * (wrap64 (rd t329 1)))))) : Int).toNat).drop ((ji27) : Int).toNat) _ _ _ (fun _ => True) (fun _ => False) rfl rfl ?aO ?aR (fun _ _ h => h) (fun _ h => h.elim) ?aF ?aB ?aS ?aL ?_; (case aR => first | (rw [← show ((l0.take ((wrap64 ((ji27) + (wrap64 (32 * (wrap64 (rd t329 1)))))) : Int).toNat).drop ((ji27) : Int).toNat).length = ((wrap64 ((ji27) + (wrap64 (32 * (wrap64 (rd t329 1)))))).toNat - (ji27).toNat) from (by rw [List.length_drop, List.length_take]; have h_ : ((wrap64 ((ji27) + (wrap64 (32 * (wrap64 (rd t329 1)))))) : Int) ≤ (l0.length : Int) := of_decide_eq_true (by first | (with_reducible assumption) | assumption); omega)]; exact Cz.cb HR341) | (exact Cz.cb HR341)); (case aB => exact (Cz.bl (w := w))); (case aF => exact (fun _ _ => trivial)); (case aO => exact (by (with_reducible repeat (first | apply Kd.R_alloc | apply Kd.R_drewN | apply Kd.R_drew)); exact HO340.out)); (case aS => exact (below_size (Cz.bl (w := w)))); (case aL => have := LMc31.out; have hlx_ := (show ((l0.take ((wrap64 ((ji27) + (wrap64 (32 * (wrap64 (rd t329 1)))))) : Int).toNat).drop ((ji27) : Int).toNat).length = ((wrap64 ((ji27) + (wrap64 (32 * (wrap64 (rd t329 1)))))).toNat - (ji27).toNat) from (by rw [List.length_drop, List.length_take]; have h_ : ((wrap64 ((ji27) + (wrap64 (32 * (wrap64 (rd t329 1)))))) : Int) ≤ (l0.length : Int) := of_decide_eq_true (by first | (with_reducible assumption) | assumption); omega)); omega); intro v343 w48 ho hb hg hat; rw [← Ny342.out] at ho; have HO344 := Aside0.mk (ho); replace HO_4 := Aside0.mk (Kd.S_after (ok := (fun k_ => k_ ≠ gb337)) (by (with_reducible repeat (first | apply Kd.S_alloc | apply Kd.S_drewN | apply Kd.S_drew)); exact Kd.S_mono HO_4.out (fun _ hk => ⟨hk.1.2, hk.2⟩)) hg hat); replace HO331 := Aside0.mk (Kd.R_over' (by (with_reducible repeat (first | apply Kd.R_alloc | apply Kd.R_drewN | apply Kd.R_drew)); exact HO331.out) (Kd.R_typed (by (with_reducible repeat (first | apply Kd.R_alloc | apply Kd.R_drewN | apply Kd.R_drew)); exact HO340.out)) (by decide) hg); replace BK337 := Cz.bw BK337 hg (Kd.R_ne HO340.out BK337.out (by decide)); replace HB := Aside0.mk (hb); clear HO340; clear ho hb hg hat; obtain ⟨Ao49, co49, eo49⟩ := Kd.R_slice HO344.out; subst eo49; have z50_0 : w48.cell? ⟨gb337, 0, none⟩ = some (.int .i64 (wrap64 (rd t329 0))) := (blk_cell BK337.out 0).trans rfl; have z50_1 : w48.cell? ⟨gb337, 1, none⟩ = some (.int .i64 (wrap64 (rd t329 1))) := (blk_cell BK337.out 1).trans rfl; have z50_2 : w48.cell? ⟨gb337, 2, none⟩ = some (.int .i64 (wrap64 (rd t329 2))) := (blk_cell BK337.out 2).trans rfl; have z50_3 : w48.cell? ⟨gb337, 3, none⟩ = some (.int .i64 (wrap64 (rd t329 3))) := (blk_cell BK337.out 3).trans rfl; have z50_4 : w48.cell? ⟨gb337, 4, none⟩ = some (.slice none 0 0) := (blk_cell BK337.out 4).trans rfl; have y50_0 := blk_frozen BK337.out 0; have y50_1 := blk_frozen BK337.out 1; have y50_2 := blk_frozen BK337.out 2; have y50_3 := blk_frozen BK337.out 3; have y50_4 := blk_frozen BK337.out 4) | ((with_reducible refine gate_store (t := 23) (p := 77) rfl ?_); refine store_event (t := 23) (p := 77) (v := ?vo_w51) (w1 := (w48.setCell ⟨gb337, 4, none⟩ (.slice Ao49 y342.length co49))) ?hg ?ho ?hn ?hr ?_; (case ho => rfl); (case hg => rfl); (case hn => rfl); (case hr => first | (go_simp; done) | (go_simp; rfl)); intro w51 hw; have n0_ : Aside0 (Kd.S k39 39 w51 w.heap.size (fun k_ => some k_ ≠ (.slice Ao49 y342.length co49 : Value).ownBlock ∧ k_ ≠ gb337) u4 x4_1) := ⟨(by rw [hw]; exact (by (with_reducible repeat (first | apply Kd.S_alloc | apply Kd.S_drewN | apply Kd.S_drew)); exact Kd.S_mono (Cz.sf (Kd.S_mono HO_4.out (fun k_ hk => (⟨hk, hk.1⟩ : _ ∧ k_ ≠ gb337)))) (fun _ hk => ⟨hk.1.2, hk.1.1⟩)))⟩; have n1_ : Aside0 (Kd.R (Kd.int .u64) 44 w51 w.heap.size (fun _ => True) (.slice (some ad333) t329.length co36) t329) := ⟨(by rw [hw]; exact (by (with_reducible repeat (first | apply Kd.R_alloc | apply Kd.R_drewN | apply Kd.R_drew)); exact Kd.R_mono (Cz.rf (Kd.R_types HO331.out BK337.out (by decide))) (fun _ hk => trivial)))⟩; have n2_ : Aside0 (Kd.R (Kd.int .u8) 5 w51 w.heap.size (fun _ => True) (.slice Ao49 y342.length co49) y342) := ⟨(by rw [hw]; exact (by (with_reducible repeat (first | apply Kd.R_alloc | apply Kd.R_drewN | apply Kd.R_drew)); exact Kd.R_mono (Cz.rf (Kd.R_types HO344.out BK337.out (by decide))) (fun _ hk => trivial)))⟩; have n3_ : Aside0 (w51.heap[gb337]? = some (.cells #[.int .i64 (wrap64 (rd t329 0)), .int .i64 (wrap64 (rd t329 1)), .int .i64 (wrap64 (rd t329 2)), .int .i64 (wrap64 (rd t329 3)), .slice Ao49 y342.length co49] 39 (0, 0))) := ⟨(by rw [hw]; exact (by (with_reducible repeat (first | refine blk_drewN ?_ _ | refine blk_drew ?_ | refine blk_alloc ?_ _)); refine blk_put (cs := #[.int .i64 (wrap64 (rd t329 0)), .int .i64 (wrap64 (rd t329 1)), .int .i64 (wrap64 (rd t329 2)), .int .i64 (wrap64 (rd t329 3)), .slice none 0 0]) ?_ 4 _ rfl; (with_reducible repeat (first | refine blk_drewN ?_ _ | refine blk_drew ?_ | refine blk_alloc ?_ _)); exact BK337.out))⟩; have n4_ : Aside0 (Below w.heap.size w w51) := ⟨(by rw [hw]; exact (Cz.bl (w := w)))⟩; clear hw; clear HO_4; clear HO331; clear HO344; clear BK337; clear HB; have HO_4 := n0_; have HO331 := n1_; have HO344 := n2_; have BK337 := n3_; have HB := n4_; clear n0_ n1_ n2_ n3_ n4_; have z52_0 : w51.cell? ⟨gb337, 0, none⟩ = some (.int .i64 (wrap64 (rd t329 0))) := (blk_cell BK337.out 0).trans rfl; have z52_1 : w51.cell? ⟨gb337, 1, none⟩ = some (.int .i64 (wrap64 (rd t329 1))) := (blk_cell BK337.out 1).trans rfl; have z52_2 : w51.cell? ⟨gb337, 2, none⟩ = some (.int .i64 (wrap64 (rd t329 2))) := (blk_cell BK337.out 2).trans rfl; have z52_3 : w51.cell? ⟨gb337, 3, none⟩ = some (.int .i64 (wrap64 (rd t329 3))) := (blk_cell BK337.out 3).trans rfl; have z52_4 : w51.cell? ⟨gb337, 4, none⟩ = some (.slice Ao49 y342.length co49) := (blk_cell BK337.out 4).trans rfl; have y52_0 := blk_frozen BK337.out 0; have y52_1 := blk_frozen BK337.out 1; have y52_2 := blk_frozen BK337.out 2; have y52_3 := blk_frozen BK337.out 3; have y52_4 := blk_frozen BK337.out 4) | ((with_reducible refine gate_builtin (b := .append) (xs := #[.tmp 83, .tmp 85]) rfl ?_); at_builtin; refine Kd.S_append k39 (w0 := w) w.heap.size rfl (.tmp 83) (.tmp 85) 24 39 (.agg #[(.int .i64 0), (.int .i64 0), (.int .i64 0), (.int .i64 0), (.slice none 0 0)]) 56 rfl Try.underlying24 info39 rfl (by decide) (by omega) u4 x4_1 (⟨wrap64 (rd t329 0), wrap64 (rd t329 1), wrap64 (rd t329 2), wrap64 (rd t329 3), y342⟩ : S39) [.int .i64 (wrap64 (rd t329 0)), .int .i64 (wrap64 (rd t329 1)), .int .i64 (wrap64 (rd t329 2)), .int .i64 (wrap64 (rd t329 3)), .slice Ao49 y342.length co49] (fun k_ => k_ ≠ gb337) (fun k_ => some k_ = (.slice Ao49 y342.length co49 : Value).ownBlock) rfl rfl ?aP (fun k_ hk_ => ((Kd.R_mono (ok' := fun k_ => ((fun k_ => k_ ≠ gb337)) k_ ∧ some k_ ≠ (u4 : Value).ownBlock) (Kd.R_types (Kd.R_apart' (HO344.out) (Kd.S_typed HO_4.out) (by decide)) BK337.out (by decide)) (fun k_ hk => ⟨hk.2, hk.1.2⟩))).1 k_ hk_.symm) ?aF ?aO ?aB ?aS ?aL ?_; (case aP => exact k39_mkM _ _ _ (⟨wrap64 (rd t329 0), wrap64 (rd t329 1), wrap64 (rd t329 2), wrap64 (rd t329 3), y342⟩ : S39) (Kd.R_mono (Kd.R_tight rfl (Kd.R_mono (ok' := fun k_ => ((fun k_ => k_ ≠ gb337)) k_ ∧ some k_ ≠ (u4 : Value).ownBlock) (Kd.R_types (Kd.R_apart' (HO344.out) (Kd.S_typed HO_4.out) (by decide)) BK337.out (by decide)) (fun k_ hk => ⟨hk.2, hk.1.2⟩))) (fun _ h_ => h_))); (case aB => exact (Cz.bl (w := w))); (case aF => exact (fun k_ hk => Kd.freshB (g := gb337) (o := .cells #[.int .i64 (wrap64 (rd t329 0)), .int .i64 (wrap64 (rd t329 1)), .int .i64 (wrap64 (rd t329 2)), .int .i64 (wrap64 (rd t329 3)), .slice Ao49 y342.length co49] 39 (0, 0)) (by (with_reducible repeat (first | refine blk_drewN ?_ _ | refine blk_drew ?_ | refine blk_alloc ?_ _)); exact BK337.out) k_ hk)); (case aO => exact (by (with_reducible repeat (first | apply Kd.S_alloc | apply Kd.S_drewN | apply Kd.S_drew)); exact Kd.S_mono HO_4.out (fun k_ hk => ⟨hk.2, fun e_ => hk.1 e_⟩))); (case aS => exact (below_size (Cz.bl (w := w)))); (case aL => have := LMc32.out; omega); intro v346 w53 ho hb hg hat; rw [← Ny345.out] at ho; have HO347 := Aside0.mk (ho); replace HO331 := Aside0.mk (Kd.R_over' (by (with_reducible repeat (first | apply Kd.R_alloc | apply Kd.R_drewN | apply Kd.R_drew)); exact HO331.out) (Kd.S_typed (by (with_reducible repeat (first | apply Kd.S_alloc | apply Kd.S_drewN | apply Kd.S_drew)); exact HO_4.out)) (by decide) hg); replace BK337 := Cz.bw BK337 hg (Kd.S_away HO_4.out (fun _ hk => hk.2)); replace HB := Aside0.mk (hb); clear HO_4 HO344; clear ho hb hg hat))
                     go_roundg k1
                     case measure => have := HK1.out; omega
                     case rel => exact ⟨(y345), (wrap64 ((ji27) + (wrap64 (32 * (wrap64 (rd t329 1)))))), (wrap64 (x6_1 + 1)), (by first | rfl | (simp; done) | (simp only [← hji27] <;> (first | rfl | simp)) | (simp [*]; done)), Cz.si, H', ⟨by have := HK1.out; omega⟩, ⟨by (with_reducible repeat (first | apply Kd.S_alloc | apply Kd.S_drewN | apply Kd.S_drew)); exact Kd.S_mono HO347.out (fun _ hk => trivial)⟩, ⟨Cz.bl (w := w)⟩⟩
                    ·rw [if_neg c32] at H
                     exact absurd H (by simp)
                   ·rw [if_neg c31] at H
                    exact absurd H (by simp)
                  ·rw [if_neg c30] at H
                   exact absurd H (by simp)
                 ·rw [if_neg c29] at H
                  exact absurd H (by simp)
                ·rw [if_neg c28] at H
                 exact absurd H (by simp)
              ·rw [if_neg c14] at H
               have c14b0 : ((wrap64 (rd t329 2)) == 2) = false := beq_eq_false_iff_ne.mpr c14
               have c14b1 : ((wrap64 (rd t329 2)) != 2) = true := bne_iff_ne.mpr c14
               by_cases c54 : x4_1.length < 2513169434916
               ·rw [if_pos c54] at H
                have LMc54 := Aside0.mk c54
                clear c54
                obtain ⟨y348, hy348⟩ : ∃ y_ : List (S39), y_ = (x4_1 ++ [(⟨wrap64 (rd t329 0), wrap64 (rd t329 1), wrap64 (rd t329 2), wrap64 (rd t329 3), ([] : List Int)⟩ : S39)]) := ⟨_, rfl⟩
                replace H : (waggonerref07_Read_p.l0 k1 l0 y348 (wrap64 (x5_1 + 7)) (wrap64 (x6_1 + 1))) = some (r1, r2) := by first | (rw [hy348]; with_reducible exact H) | (have H2_ := (Option.bind_some _ _).symm.trans H; rw [hy348]; with_reducible exact H2_) | (have H2_ := (Option.bind_some _ _).symm.trans H; with_reducible exact H2_) | with_reducible exact H | (rw [hy348]; exact H) | exact H
                have Ny348 := Aside0.mk hy348
                clear hy348
                have H' := Aside0.mk H
                clear H
                have p323 : 0 ≤ (0 : Int) := (by omega)
                have q323 : 0 < (l0.length : Int) := of_decide_eq_true (by first | (with_reducible assumption) | assumption)
                obtain ⟨ad323, e323, hx323_0⟩ := Kd.at_int HR0.out 0 p323 q323
                cases e323
                have qi323 : (0 < l0.length) = True := eq_true (by omega)
                (try rw [show ((0 : Int)).toNat = 0 from rfl] at hx323_0)
                (try rw [Addr.add_zero'] at hx323_0)
                replace hx323_0 := (HB.out.cell (World.block_lt_of_cell? w _ hx323_0)).trans hx323_0
                replace p323 := eq_true p323
                replace q323 := eq_true q323
                obtain ⟨i055, hi055, _, hsz55, _⟩ := info_parts info5
                obtain ⟨A55, hcut55, hA55, hC55⟩ := print_mid_of (P := Try.prog) (Value.int .u8) 0 23 5 .i64 .i64 Try.underlying23 hi055 hsz55 (some ad323) c0 l0 x5_1 (wrap64 (x5_1 + 7)) (of_decide_eq_true (by first | (with_reducible assumption) | assumption)) (by first | omega | exact of_decide_eq_true (by first | (with_reducible assumption) | assumption)) (of_decide_eq_true (by first | (with_reducible assumption) | assumption)) HC0.out
                have HR328 := Aside0.mk (Kd.C_of_reads (h1 := fun _ => rfl) (hA55 _ (Kd.reads_of_C HR0.out)))
                have HC328 := Aside0.mk hC55
                clear hA55 hC55 hi055 hsz55
                try go_wp2_with (first | ((with_reducible refine gate_callee (f := 27) rfl ?_); refine goesL_ (some 34) rfl rfl Try.func27 (by kernel_rfl) rfl #[.string (⟨#[98, 98, 98, 119]⟩ : ByteArray), .slice A55 ((l0.take ((wrap64 (x5_1 + 7)) : Int).toNat).drop (x5_1 : Int).toNat).length (c0 - x5_1.toNat)] rfl (by (try simp only [List.map_toArray, List.map_cons, List.map_nil]); first | done | (rw [show ((l0.take ((wrap64 (x5_1 + 7)) : Int).toNat).drop (x5_1 : Int).toNat).length = ((wrap64 (x5_1 + 7)).toNat - x5_1.toNat) from (by rw [List.length_drop, List.length_take]; have h_ : ((wrap64 (x5_1 + 7)) : Int) ≤ (l0.length : Int) := of_decide_eq_true (by first | (with_reducible assumption) | assumption); omega)] <;> rfl) | rfl | (simp only [List.length_drop, List.length_take]; rfl)) ?_; (with_reducible refine (waggonerref01_Unpack.calls (⟨#[98, 98, 98, 119]⟩ : ByteArray) (fun k_ => k_ < w.heap.size) _ _ ((l0.take ((wrap64 (x5_1 + 7)) : Int).toNat).drop (x5_1 : Int).toNat) t329 t332 _ ?side1 A9.out).mono ?_); (case side1 => exact Kd.V_mk HC328.out (Kd.F_below (Kd.C_F (Kd.heap_int .u8) HR328.out) (Cz.bl (w := w)))); rintro e w56 ⟨v330, rfl, ho0, hb⟩; refine ⟨_, rfl, ?_⟩; have HO331 := Aside0.mk (Kd.R_lower (Kd.R_mono (ok' := fun k_ => True) ho0 (fun _ hk_ => trivial)) (below_size (Cz.bl (w := w)))); replace HO_4 := Cz.sb HO_4 hb; replace HB := Cz.bs (w := w) hb; (try clear hb); (try clear ho0)))
                replace HO_4 := Aside0.mk (Kd.S_drew HO_4.out)
                replace HO331 := Aside0.mk (Kd.R_drew HO331.out)
                replace HB := Aside0.mk (below_drew1 HB.out)
                obtain ⟨Ao58, co58, eo58⟩ := Kd.R_slice HO331.out
                (first | subst eo58 | (injection eo58 with f1_ f2_ f3_; have f4_ := f1_.symm; have f5_ := f3_.symm; clear f1_ f2_ f3_; subst f4_; subst f5_))
                have p333 : 0 ≤ (0 : Int) := (by omega)
                have q333 : 0 < (t329.length : Int) := of_decide_eq_true (by first | (with_reducible assumption) | assumption)
                obtain ⟨ad333, e333, hx333_0⟩ := Kd.at_int (Kd.R_reads' HO331.out).2.2 0 p333 q333
                cases e333
                have qi333 : (0 < t329.length) = True := eq_true (by omega)
                (try rw [show ((0 : Int)).toNat = 0 from rfl] at hx333_0)
                (try rw [Addr.add_zero'] at hx333_0)
                replace p333 := eq_true p333
                replace q333 := eq_true q333
                have p334 : 0 ≤ (1 : Int) := (by omega)
                have q334 : 1 < (t329.length : Int) := of_decide_eq_true (by first | (with_reducible assumption) | assumption)
                obtain ⟨ad334, e334, hx334_0⟩ := Kd.at_int (Kd.R_reads' HO331.out).2.2 1 p334 q334
                obtain rfl : ad333 = ad334 := (by injection e334)
                (try simp only [show (1 : Int).toNat = 1 from rfl, Nat.reduceMul, Nat.reduceEqDiff, Go.Addr.add, ↓reduceIte] at hx334_0)
                have qi334 : (1 < t329.length) = True := eq_true (by omega)
                (try rw [show ((1 : Int)).toNat = 1 from rfl] at hx334_0)
                replace p334 := eq_true p334
                replace q334 := eq_true q334
                have p335 : 0 ≤ (2 : Int) := (by omega)
                have q335 : 2 < (t329.length : Int) := of_decide_eq_true (by first | (with_reducible assumption) | assumption)
                obtain ⟨ad335, e335, hx335_0⟩ := Kd.at_int (Kd.R_reads' HO331.out).2.2 2 p335 q335
                obtain rfl : ad333 = ad335 := (by injection e335)
                (try simp only [show (2 : Int).toNat = 2 from rfl, Nat.reduceMul, Nat.reduceEqDiff, Go.Addr.add, ↓reduceIte] at hx335_0)
                have qi335 : (2 < t329.length) = True := eq_true (by omega)
                (try rw [show ((2 : Int)).toNat = 2 from rfl] at hx335_0)
                replace p335 := eq_true p335
                replace q335 := eq_true q335
                have p336 : 0 ≤ (3 : Int) := (by omega)
                have q336 : 3 < (t329.length : Int) := of_decide_eq_true (by first | (with_reducible assumption) | assumption)
                obtain ⟨ad336, e336, hx336_0⟩ := Kd.at_int (Kd.R_reads' HO331.out).2.2 3 p336 q336
                obtain rfl : ad333 = ad336 := (by injection e336)
                (try simp only [show (3 : Int).toNat = 3 from rfl, Nat.reduceMul, Nat.reduceEqDiff, Go.Addr.add, ↓reduceIte] at hx336_0)
                have qi336 : (3 < t329.length) = True := eq_true (by omega)
                (try rw [show ((3 : Int)).toNat = 3 from rfl] at hx336_0)
                replace p336 := eq_true p336
                replace q336 := eq_true q336
                refine start_ (n := 19) (S := fun w' => w'.cell? ad333 = some (.int .u64 (rd t329 0)) ∧ w'.cell? ⟨ad333.block, ad333.off + 1, none⟩ = some (.int .u64 (rd t329 1)) ∧ w'.cell? ⟨ad333.block, ad333.off + 2, none⟩ = some (.int .u64 (rd t329 2)) ∧ w'.cell? ⟨ad333.block, ad333.off + 3, none⟩ = some (.int .u64 (rd t329 3))) (ds := [18]) #[false, false, false, false, false, false, false, false, false, false, false, false, false, false, false, false, false, false, false] (by kernel_rfl) rfl rfl ⟨hx333_0, hx334_0, hx335_0, hx336_0⟩ (fun hHeld => ?_); refine with_tabW waggonerref07_Read_p.tab11 waggonerref07_Read_p.bits11 (fun HT_ HW_ => ?_)
                generalize w56.drew = w57 at HO_4 HO331 HB hx333_0 hx334_0 hx335_0 hx336_0 hHeld ⊢
                refine Cz.qP 0 37 HT_ ?_
                refine Cz.qP 1 38 HT_ ?_
                refine Cz.qP 4 41 HT_ ?_
                refine Cz.qP 5 42 HT_ ?_
                refine Cz.qP 8 45 HT_ ?_
                refine Cz.qP 9 46 HT_ ?_
                refine Cz.qP 12 49 HT_ ?_
                refine Cz.qP 13 50 HT_ ?_
                refine Cz.qT 2 39 HT_ HW_ hHeld ?_
                refine Cz.qP 3 40 HT_ ?_
                refine Cz.qT 6 43 HT_ HW_ hHeld ?_
                refine Cz.qP 7 44 HT_ ?_
                refine Cz.qT 10 47 HT_ HW_ hHeld ?_
                refine Cz.qP 11 48 HT_ ?_
                refine Cz.qT 14 51 HT_ HW_ hHeld ?_
                refine Cz.qP 15 52 HT_ ?_
                refine Cz.qP 16 53 HT_ ?_
                refine Cz.qO (N := some 9) 17 HT_ (fun K hK => ?_)
                refine box_step ?hg (N := 9) ?hd (cs := #[.int .i64 0, .int .i64 0, .int .i64 0, .int .i64 0, .slice none 0 0]) (t := 39) ?hr ?_; (case hd => rfl); (case hg => rfl); (case hr => first | (go_simp; done) | (go_simp; rfl))
                intro gb337 hg w59 hbox hb
                have HS0_ := (hb.cell (World.block_lt_of_cell? _ _ (hHeld.1))).trans (hHeld.1)
                have HS1_ := (hb.cell (World.block_lt_of_cell? _ _ (hHeld.2.1))).trans (hHeld.2.1)
                have HS2_ := (hb.cell (World.block_lt_of_cell? _ _ (hHeld.2.2.1))).trans (hHeld.2.2.1)
                have HS3_ := (hb.cell (World.block_lt_of_cell? _ _ (hHeld.2.2.2))).trans (hHeld.2.2.2)
                have BK337 := Aside0.mk (hbox)
                have GW337 := Aside0.mk ((Cz.gs hg : w.heap.size ≤ gb337))
                have GE337 := GW337
                replace HO_4 := Aside0.mk (Kd.S_below (Kd.S_elderB (by (with_reducible repeat (first | apply Kd.S_alloc | apply Kd.S_drewN | apply Kd.S_drew)); exact HO_4.out) gb337 (Nat.le_of_eq hg.symm)) hb)
                replace HO331 := Cz.rb HO331 hb
                replace HB := Cz.bs (w := w) hb
                clear hb hbox hg
                refine hK.out _ _ ⟨HS0_, HS1_, HS2_, HS3_⟩ (fun hHeld => ?_)
                clear hK K
                refine norm_ (a' := ?_) ?_ ?_
                rotate_left
                ·show Act.put _ (some 9) _ = _
                 simp only [Act.put, Kx.sb, Kx.sz, Kx.ss, i64_w, i32_w]
                 rfl
                refine last_ (i := 18) (N := none) #[true, true, true, true, true, true, true, true, true, true, true, true, true, true, true, true, true, true, true] rfl rfl (one_of HT_.out (by kernel_rfl)) (by decide) (fun K hK => ?_)
                have hs60 : w59.cell? ⟨gb337, 0, none⟩ = some (.int .i64 0) := (blk_cell BK337.out 0).trans rfl
                have hfs60 := blk_frozen BK337.out 0
                have hs61 : w59.cell? ⟨gb337, 1, none⟩ = some (.int .i64 0) := (blk_cell BK337.out 1).trans rfl
                have hfs61 := blk_frozen BK337.out 1
                have hs62 : w59.cell? ⟨gb337, 2, none⟩ = some (.int .i64 0) := (blk_cell BK337.out 2).trans rfl
                have hfs62 := blk_frozen BK337.out 2
                have hs63 : w59.cell? ⟨gb337, 3, none⟩ = some (.int .i64 0) := (blk_cell BK337.out 3).trans rfl
                have hfs63 := blk_frozen BK337.out 3
                have hs64 : w59.cell? ⟨gb337, 4, none⟩ = some (.slice none 0 0) := (blk_cell BK337.out 4).trans rfl
                have hfs64 := blk_frozen BK337.out 4
                refine skip_ (w1 := ?_) (by rfl) rfl ?_ ?_
                rotate_left
                ·go_simp
                 rfl
                refine hK.out _ _ ?_
                clear hK K
                refine done_ (done_of HT_.out (by kernel_rfl)) ?_
                obtain ⟨z65_0, z65_1, z65_2, z65_3, z65_4, y65_0, y65_1, y65_2, y65_3, y65_4⟩ := Cz.d5 BK337
                try go_wp2_with (first | ((with_reducible refine gate_builtin (b := .append) (xs := #[.tmp 83, .tmp 85]) rfl ?_); at_builtin; refine Kd.S_append k39 (w0 := w) w.heap.size rfl (.tmp 83) (.tmp 85) 24 39 (.agg #[(.int .i64 0), (.int .i64 0), (.int .i64 0), (.int .i64 0), (.slice none 0 0)]) 56 rfl Try.underlying24 info39 rfl (by decide) (by omega) u4 x4_1 (⟨wrap64 (rd t329 0), wrap64 (rd t329 1), wrap64 (rd t329 2), wrap64 (rd t329 3), ([] : List Int)⟩ : S39) [.int .i64 (wrap64 (rd t329 0)), .int .i64 (wrap64 (rd t329 1)), .int .i64 (wrap64 (rd t329 2)), .int .i64 (wrap64 (rd t329 3)), .slice none 0 0] (fun k_ => k_ ≠ gb337) (fun _ => False) rfl (by first | (go_simp; done) | (go_simp; rfl)) ?aP (fun k_ hk_ => hk_.elim) ?aF ?aO ?aB ?aS ?aL ?_; (case aP => exact k39_mkM _ _ _ (⟨wrap64 (rd t329 0), wrap64 (rd t329 1), wrap64 (rd t329 2), wrap64 (rd t329 3), ([] : List Int)⟩ : S39) (Kd.R_nil _ _ _ _ _)); (case aB => exact (Cz.bl (w := w))); (case aF => exact (fun k_ hk => Kd.freshB (g := gb337) (o := .cells #[.int .i64 (wrap64 (rd t329 0)), .int .i64 (wrap64 (rd t329 1)), .int .i64 (wrap64 (rd t329 2)), .int .i64 (wrap64 (rd t329 3)), .slice none 0 0] 39 (0, 0)) (by (with_reducible repeat (first | refine blk_drewN ?_ _ | refine blk_drew ?_ | refine blk_alloc ?_ _)); apply Cz.a5; (with_reducible repeat (first | refine blk_drewN ?_ _ | refine blk_drew ?_ | refine blk_alloc ?_ _)); exact BK337.out) k_ hk)); (case aO => exact (by (with_reducible repeat (first | apply Kd.S_alloc | apply Kd.S_drewN | apply Kd.S_drew)); exact Kd.S_mono (Cz.sf (Cz.sf (Cz.sf (Cz.sf (Cz.sf (Kd.S_mono HO_4.out (fun k_ hk => (⟨hk, hk.2⟩ : _ ∧ k_ ≠ gb337)))))))) (fun k_ hk => ⟨hk.1.2, fun e_ => e_⟩))); (case aS => exact (below_size (Cz.bl (w := w)))); (case aL => have := LMc54.out; omega); intro v349 w66 ho hb hg hat; rw [← Ny348.out] at ho; have HO350 := Aside0.mk (ho); replace HO331 := Aside0.mk (Kd.R_over' (by (with_reducible repeat (first | apply Kd.R_alloc | apply Kd.R_drewN | apply Kd.R_drew)); exact (Kd.R_mono (Cz.rf (Cz.rf (Cz.rf (Cz.rf (Cz.rf (Kd.R_types HO331.out BK337.out (by decide))))))) (fun _ h_ => h_.1))) (Kd.S_typed (by (with_reducible repeat (first | apply Kd.S_alloc | apply Kd.S_drewN | apply Kd.S_drew)); exact (Kd.S_mono (Cz.sf (Cz.sf (Cz.sf (Cz.sf (Cz.sf (Kd.S_mono HO_4.out (fun k_ hk => (⟨hk, hk.2⟩ : _ ∧ k_ ≠ gb337)))))))) (fun _ h_ => h_.1)))) (by decide) hg); replace BK337 := Aside0.mk (blk_grown (g := gb337) (o := .cells #[.int .i64 (wrap64 (rd t329 0)), .int .i64 (wrap64 (rd t329 1)), .int .i64 (wrap64 (rd t329 2)), .int .i64 (wrap64 (rd t329 3)), .slice none 0 0] 39 (0, 0)) (by (with_reducible repeat (first | refine blk_drewN ?_ _ | refine blk_drew ?_ | refine blk_alloc ?_ _)); apply Cz.a5; (with_reducible repeat (first | refine blk_drewN ?_ _ | refine blk_drew ?_ | refine blk_alloc ?_ _)); exact BK337.out) hg (Kd.S_away HO_4.out (fun _ hk => hk.2))); replace HB := Aside0.mk (hb); clear HO_4; clear ho hb hg hat))
                go_roundg k1
                case measure => have := HK1.out; omega
                case rel => exact ⟨(y348), (wrap64 (x5_1 + 7)), (wrap64 (x6_1 + 1)), Cz.si, Cz.si, H', ⟨by have := HK1.out; omega⟩, ⟨by (with_reducible repeat (first | apply Kd.S_alloc | apply Kd.S_drewN | apply Kd.S_drew)); exact Kd.S_mono HO350.out (fun _ hk => trivial)⟩, ⟨Cz.bl (w := w)⟩⟩
               ·rw [if_neg c54] at H
                exact absurd H (by simp)
             ·rw [if_neg c13] at H
              exact absurd H (by simp)
            ·rw [if_neg c12] at H
             exact absurd H (by simp)
           ·rw [if_neg c11] at H
            exact absurd H (by simp)
          ·rw [if_neg c10] at H
           exact absurd H (by simp)
         ·rw [if_neg c8] at H
          exact absurd H (by simp)
        ·rw [if_neg c7] at H
         exact absurd H (by simp)
       ·rw [if_neg c6] at H
        exact absurd H (by simp)
     ·rw [if_neg c4] at H
      have c4b0 : decide (x6_1 < (wrap64 (rd l0 0))) = false := decide_eq_false c4
      clear c4
      replace H := Option.bind_eq_some_iff.mp H
      obtain ⟨⟨t324, t325⟩, A670, H⟩ := H
      (try dsimp only at H)
      have A67 := Aside0.mk A670
      clear A670
      by_cases c68 : t325 = 0
      ·rw [if_pos c68] at H
       have c68b0 : (t325 == 0) = true := beq_iff_eq.mpr c68
       have c68b1 : (t325 != 0) = false := bne_eq_false_iff_eq.mpr c68
       clear c68
       by_cases c69 : (strOfNums t324).toList = (strOfNums l0).toList
       ·rw [if_pos c69] at H
        have c69b0 : ((strOfNums t324).toList == (strOfNums l0).toList) = true := beq_iff_eq.mpr c69
        have c69b1 : ((strOfNums t324).toList != (strOfNums l0).toList) = false := bne_eq_false_iff_eq.mpr c69
        clear c69
        simp only [Option.some.injEq, Prod.mk.injEq] at H
        obtain ⟨rfl, rfl⟩ := H
        have p323 : 0 ≤ (0 : Int) := (by omega)
        have q323 : 0 < (l0.length : Int) := of_decide_eq_true (by first | (with_reducible assumption) | assumption)
        obtain ⟨ad323, e323, hx323_0⟩ := Kd.at_int HR0.out 0 p323 q323
        cases e323
        have qi323 : (0 < l0.length) = True := eq_true (by omega)
        (try rw [show ((0 : Int)).toNat = 0 from rfl] at hx323_0)
        (try rw [Addr.add_zero'] at hx323_0)
        replace hx323_0 := (HB.out.cell (World.block_lt_of_cell? w _ hx323_0)).trans hx323_0
        replace p323 := eq_true p323
        replace q323 := eq_true q323
        obtain ⟨Ao70, co70, eo70⟩ := Kd.S_slice HO_4.out
        subst eo70
        go_wp2_with (first | ((with_reducible refine gate_callee (f := 23) rfl ?_); refine Cz.gL (N := (some 89)) Try.func23 #[.slice Ao70 x4_1.length co70] ?_; (with_reducible refine (waggonerref07_Write.calls _ _ x4_1 t324 t325 _ ?side1 ?side2 A67.out).mono ?_); (case side1 => repeat (first | exact (Kd.S_reads' HO_4.out).2.2 | (with_reducible refine Kd.C_alloc ?_ _) | (with_reducible refine Kd.C_drewN ?_ _) | (with_reducible refine Kd.C_drew ?_))); (case side2 => exact (Kd.S_reads' HO_4.out).2.1); rintro e w71 ⟨v326, rfl, ho0, hb⟩; refine ⟨_, rfl, ?_⟩; have HO327 := Aside0.mk (Kd.R_lower ho0 (below_size (Cz.bl (w := w)))); replace HO_4 := Aside0.mk (Kd.S_elder' (by (with_reducible repeat (first | apply Kd.S_alloc | apply Kd.S_drewN | apply Kd.S_drew)); exact HO_4.out) (Kd.R_base ho0) hb); replace HB := Cz.bs (w := w) hb; (try clear hb); (try clear ho0); have hcv72 := own_string (P := Try.prog) Try.underlying23 Try.underlying5 Try.underlying9 (Kd.own_of_R HO327.out); (try have hcvd73 := fun (n_ : Nat) => own_string (P := Try.prog) Try.underlying23 Try.underlying5 Try.underlying9 (Kd.own_of_R (Kd.R_drewN HO327.out n_))); have hcv74 := Kd.C_string (P := Try.prog) (A := (some ad323)) (c := c0) Try.underlying23 Try.underlying5 Try.underlying9 (Kd.C_below HR0.out HB.out); (try have hcvd75 := fun (n_ : Nat) => Kd.C_string (P := Try.prog) (A := (some ad323)) (c := c0) Try.underlying23 Try.underlying5 Try.underlying9 (Kd.C_drewN (Kd.C_below HR0.out HB.out) n_))))
        go_ret2
        exact ⟨_, Cz.er, by (with_reducible repeat (first | apply Kd.S_alloc | apply Kd.S_drewN | apply Kd.S_drew)); exact Kd.S_mono HO_4.out (fun _ hk => trivial), Cz.bl (w := w)⟩
       ·rw [if_neg c69] at H
        have c69b0 : ((strOfNums t324).toList == (strOfNums l0).toList) = false := beq_eq_false_iff_ne.mpr c69
        have c69b1 : ((strOfNums t324).toList != (strOfNums l0).toList) = true := bne_iff_ne.mpr c69
        simp only [Option.some.injEq, Prod.mk.injEq] at H
        obtain ⟨rfl, rfl⟩ := H
        have p323 : 0 ≤ (0 : Int) := (by omega)
        have q323 : 0 < (l0.length : Int) := of_decide_eq_true (by first | (with_reducible assumption) | assumption)
        obtain ⟨ad323, e323, hx323_0⟩ := Kd.at_int HR0.out 0 p323 q323
        cases e323
        have qi323 : (0 < l0.length) = True := eq_true (by omega)
        (try rw [show ((0 : Int)).toNat = 0 from rfl] at hx323_0)
        (try rw [Addr.add_zero'] at hx323_0)
        replace hx323_0 := (HB.out.cell (World.block_lt_of_cell? w _ hx323_0)).trans hx323_0
        replace p323 := eq_true p323
        replace q323 := eq_true q323
        obtain ⟨Ao76, co76, eo76⟩ := Kd.S_slice HO_4.out
        subst eo76
        go_wp2_with (first | ((with_reducible refine gate_callee (f := 23) rfl ?_); refine Cz.gL (N := (some 89)) Try.func23 #[.slice Ao76 x4_1.length co76] ?_; (with_reducible refine (waggonerref07_Write.calls _ _ x4_1 t324 t325 _ ?side1 ?side2 A67.out).mono ?_); (case side1 => repeat (first | exact (Kd.S_reads' HO_4.out).2.2 | (with_reducible refine Kd.C_alloc ?_ _) | (with_reducible refine Kd.C_drewN ?_ _) | (with_reducible refine Kd.C_drew ?_))); (case side2 => exact (Kd.S_reads' HO_4.out).2.1); rintro e w77 ⟨v326, rfl, ho0, hb⟩; refine ⟨_, rfl, ?_⟩; have HO327 := Aside0.mk (Kd.R_lower ho0 (below_size (Cz.bl (w := w)))); replace HO_4 := Aside0.mk (Kd.S_elder' (by (with_reducible repeat (first | apply Kd.S_alloc | apply Kd.S_drewN | apply Kd.S_drew)); exact HO_4.out) (Kd.R_base ho0) hb); replace HB := Cz.bs (w := w) hb; (try clear hb); (try clear ho0); have hcv78 := own_string (P := Try.prog) Try.underlying23 Try.underlying5 Try.underlying9 (Kd.own_of_R HO327.out); (try have hcvd79 := fun (n_ : Nat) => own_string (P := Try.prog) Try.underlying23 Try.underlying5 Try.underlying9 (Kd.own_of_R (Kd.R_drewN HO327.out n_))); have hcv80 := Kd.C_string (P := Try.prog) (A := (some ad323)) (c := c0) Try.underlying23 Try.underlying5 Try.underlying9 (Kd.C_below HR0.out HB.out); (try have hcvd81 := fun (n_ : Nat) => Kd.C_string (P := Try.prog) (A := (some ad323)) (c := c0) Try.underlying23 Try.underlying5 Try.underlying9 (Kd.C_drewN (Kd.C_below HR0.out HB.out) n_))))
        go_ret2
        exact ⟨_, Cz.er, by first | exact Kd.S_nil _ _ _ _ _ | exact Kd.N_nil _ _ _ _ _ | exact Kd.V_nil _ _ _ _ _ | exact Kd.Q_nil _ _ _ _ _ | exact Kd.R_nil _ _ _ _ _, Cz.bl (w := w)⟩
      ·rw [if_neg c68] at H
       have c68b0 : (t325 == 0) = false := beq_eq_false_iff_ne.mpr c68
       have c68b1 : (t325 != 0) = true := bne_iff_ne.mpr c68
       simp only [Option.some.injEq, Prod.mk.injEq] at H
       obtain ⟨rfl, rfl⟩ := H
       have p323 : 0 ≤ (0 : Int) := (by omega)
       have q323 : 0 < (l0.length : Int) := of_decide_eq_true (by first | (with_reducible assumption) | assumption)
       obtain ⟨ad323, e323, hx323_0⟩ := Kd.at_int HR0.out 0 p323 q323
       cases e323
       have qi323 : (0 < l0.length) = True := eq_true (by omega)
       (try rw [show ((0 : Int)).toNat = 0 from rfl] at hx323_0)
       (try rw [Addr.add_zero'] at hx323_0)
       replace hx323_0 := (HB.out.cell (World.block_lt_of_cell? w _ hx323_0)).trans hx323_0
       replace p323 := eq_true p323
       replace q323 := eq_true q323
       obtain ⟨Ao82, co82, eo82⟩ := Kd.S_slice HO_4.out
       subst eo82
       go_wp2_with (first | ((with_reducible refine gate_callee (f := 23) rfl ?_); refine Cz.gL (N := (some 89)) Try.func23 #[.slice Ao82 x4_1.length co82] ?_; (with_reducible refine (waggonerref07_Write.calls _ _ x4_1 t324 t325 _ ?side1 ?side2 A67.out).mono ?_); (case side1 => repeat (first | exact (Kd.S_reads' HO_4.out).2.2 | (with_reducible refine Kd.C_alloc ?_ _) | (with_reducible refine Kd.C_drewN ?_ _) | (with_reducible refine Kd.C_drew ?_))); (case side2 => exact (Kd.S_reads' HO_4.out).2.1); rintro e w83 ⟨v326, rfl, ho0, hb⟩; refine ⟨_, rfl, ?_⟩; have HO327 := Aside0.mk (Kd.R_lower ho0 (below_size (Cz.bl (w := w)))); replace HO_4 := Aside0.mk (Kd.S_elder' (by (with_reducible repeat (first | apply Kd.S_alloc | apply Kd.S_drewN | apply Kd.S_drew)); exact HO_4.out) (Kd.R_base ho0) hb); replace HB := Cz.bs (w := w) hb; (try clear hb); (try clear ho0)))
       go_ret2
       exact ⟨_, Cz.er, by first | exact Kd.S_nil _ _ _ _ _ | exact Kd.N_nil _ _ _ _ _ | exact Kd.V_nil _ _ _ _ _ | exact Kd.Q_nil _ _ _ _ _ | exact Kd.R_nil _ _ _ _ _, Cz.bl (w := w)⟩
    ·rw [if_neg c3] at H
     exact absurd H (by simp)
end Go.Proofs.Ytmgohkffphogdaa.PU
