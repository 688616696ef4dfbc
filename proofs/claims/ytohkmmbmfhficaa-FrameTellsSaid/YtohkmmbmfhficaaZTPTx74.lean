/- Words and walks that this claim names, of those that the kit's print and programs of this workplace have printed. -/
import Derived.Test.YtohkmmbmfhficaaZTCz
import Derived.Test.YtohkmmbmfhficaaZTPTx11
import Derived.Test.YtohkmmbmfhficaaZTPTx67
import Derived.Test.YtohkmmbmfhficaaZTPTx73
namespace Go.Proofs.Ytohkmmbmfhficaa.PT
open Go.Proofs.Ytohkmmbmfhficaa Go.RowKit Go.Proofs.YtohkmmbmfhficaaW.PrintWords Go.Proofs.YtohkmmbmfhficaaW.PrintLast Go.Proofs.YtohkmmbmfhficaaW.PrintMore
attribute [local go_sem] max2_int min2_int max_two min_two max_three min_three max_four min_four
set_option linter.unusedVariables false
set_option linter.unusedSimpArgs false
def waggonerref16_Read_p.f (l0 : List Int) : Option (Int × Int × Int × List Int × Int × Int × Int × Int × Int) := if (l0.length : Int) < 3 then (some (0, 0, 0, ([] : List Int), 0, 0, 0, 0, 161)) else (if 1 < (l0.length : Int) then (if 2 < (l0.length : Int) then (if (l0.length : Int) < (wrap64 ((wrap64 ((wrap64 (rd l0 1)) + (wrap64 (256 * (wrap64 (rd l0 2)))))) + 7)) then (some (0, 0, 0, ([] : List Int), 0, 0, 0, 0, 161)) else (if 0 < (l0.length : Int) then (if 3 ≤ (wrap64 (3 + (wrap64 ((wrap64 (rd l0 1)) + (wrap64 (256 * (wrap64 (rd l0 2)))))))) then (if (wrap64 (3 + (wrap64 ((wrap64 (rd l0 1)) + (wrap64 (256 * (wrap64 (rd l0 2)))))))) ≤ (l0.length : Int) then ((waggonerref16_may.f (wrap64 (rd l0 0)) ((l0.take ((wrap64 (3 + (wrap64 ((wrap64 (rd l0 1)) + (wrap64 (256 * (wrap64 (rd l0 2)))))))) : Int).toNat).drop 3)).bind fun bt381 => ((waggonerref16_Write.f bt381.1 bt381.2.1 bt381.2.2.1 bt381.2.2.2.1 bt381.2.2.2.2.1 bt381.2.2.2.2.2.1 bt381.2.2.2.2.2.2).bind fun bt391 => (if bt391.2 = 0 then (if 0 ≤ (wrap64 ((wrap64 ((wrap64 (rd l0 1)) + (wrap64 (256 * (wrap64 (rd l0 2)))))) + 7)) then (if (wrap64 ((wrap64 ((wrap64 (rd l0 1)) + (wrap64 (256 * (wrap64 (rd l0 2)))))) + 7)) ≤ (l0.length : Int) then (if (strOfNums bt391.1).toList = (strOfNums (l0.take ((wrap64 ((wrap64 ((wrap64 (rd l0 1)) + (wrap64 (256 * (wrap64 (rd l0 2)))))) + 7)) : Int).toNat)).toList then (some (bt381.1, bt381.2.1, bt381.2.2.1, bt381.2.2.2.1, bt381.2.2.2.2.1, bt381.2.2.2.2.2.1, bt381.2.2.2.2.2.2, wrap64 ((wrap64 ((wrap64 (rd l0 1)) + (wrap64 (256 * (wrap64 (rd l0 2)))))) + 7), 0)) else (some (0, 0, 0, ([] : List Int), 0, 0, 0, 0, 160))) else (none)) else (none)) else (some (0, 0, 0, ([] : List Int), 0, 0, 0, 0, 160))))) else (none)) else (none)) else (none))) else (none)) else (none))
def waggonerref16_Read_p.T3 : Bool × List (List Nat × List Nat) := (true, [([], []), ([0], [0]), ([1], [1]), ([2], [2]), ([], []), ([4], [4]), ([5], [5]), ([6], [6]), ([7], [7]), ([3, 8], [3, 8]), ([9, 0, 1, 2, 3, 4, 5, 6, 7, 8, 9], [9])])
def waggonerref16_Read_p.B3 : List Nat := [0, 1, 3, 7, 0, 16, 48, 112, 240, 511, 1023]
theorem waggonerref16_Read_p.tab3 : rtab .any (opsOf Try.f22 3) = waggonerref16_Read_p.T3 := by kernel_rfl
theorem waggonerref16_Read_p.bits3 : waitsOk waggonerref16_Read_p.T3.2 waggonerref16_Read_p.B3 = true := by kernel_rfl
def waggonerref16_Read_p.T6 : Bool × List (List Nat × List Nat) := (true, [([], []), ([0], [0]), ([1], [1]), ([2], [2]), ([], []), ([], []), ([5], [5]), ([4, 6], [4, 6]), ([3, 7], [3, 7]), ([], []), ([9, 8, 8, 0, 1, 2, 3, 4, 5, 6, 7, 8, 9], [8, 9])])
def waggonerref16_Read_p.B6 : List Nat := [0, 1, 3, 7, 0, 0, 32, 112, 255, 0, 1023]
theorem waggonerref16_Read_p.tab6 : rtab .any (opsOf Try.f22 6) = waggonerref16_Read_p.T6 := by kernel_rfl
theorem waggonerref16_Read_p.bits6 : waitsOk waggonerref16_Read_p.T6.2 waggonerref16_Read_p.B6 = true := by kernel_rfl
def waggonerref16_Read_p.T8 : Bool × List (List Nat × List Nat) := (true, [([], []), ([0], [0]), ([1], [1]), ([2], [2]), ([3, 2], [2, 3]), ([2], [2]), ([2], [2]), ([6, 2], [2, 6]), ([5, 7, 2], [2, 5, 7]), ([8, 2], [2, 8]), ([4, 9, 2], [2, 4, 9]), ([2, 10], [2, 10])])
def waggonerref16_Read_p.B8 : List Nat := [0, 1, 3, 7, 15, 7, 7, 71, 231, 487, 1023, 2047]
theorem waggonerref16_Read_p.tab8 : rtab .any (opsOf Try.f22 8) = waggonerref16_Read_p.T8 := by kernel_rfl
theorem waggonerref16_Read_p.bits8 : waitsOk waggonerref16_Read_p.T8.2 waggonerref16_Read_p.B8 = true := by kernel_rfl
set_option maxHeartbeats 8000000 in
set_option maxRecDepth 100000 in
theorem waggonerref16_Read_p.calls (A0 : Option Addr) (c0 : Nat) (l0 : List Int) (r1 : Int) (r2 : Int) (r3 : Int) (r4 : List Int) (r5 : Int) (r6 : Int) (r7 : Int) (r8 : Int) (r9 : Int) (w : World) (hr0 : Kd.C (Kd.int .u8) w A0 l0.length l0) (hc0 : l0.length ≤ c0) (h : waggonerref16_Read_p.f l0 = some (r1, r2, r3, r4, r5, r6, r7, r8, r9)) :
  Calls Try.prog 22 #[.slice A0 l0.length c0] w fun e w' => ∃ v3_ : Value, e = .returned (.tuple #[.agg #[.int .i64 r1, .int .i64 r2, .int .i64 r3, v3_, .int .i64 r5, .int .i64 r6, .int .i64 r7], .int .i64 r8, .int .i64 r9]) ∧ Kd.R (Kd.int .u8) 5 w' w.heap.size (fun _ => True) v3_ r4 ∧ Below w.heap.size w w' := by
 have hu38 := Try.underlying38
 have HR0 := Aside0.mk hr0
 have HC0 := Aside0.mk hc0
 clear hr0 hc0
 have HB := Aside0.mk (Below.refl w.heap.size w)
 have H : (if (l0.length : Int) < 3 then (some (0, 0, 0, ([] : List Int), 0, 0, 0, 0, 161)) else (if 1 < (l0.length : Int) then (if 2 < (l0.length : Int) then (if (l0.length : Int) < (wrap64 ((wrap64 ((wrap64 (rd l0 1)) + (wrap64 (256 * (wrap64 (rd l0 2)))))) + 7)) then (some (0, 0, 0, ([] : List Int), 0, 0, 0, 0, 161)) else (if 0 < (l0.length : Int) then (if 3 ≤ (wrap64 (3 + (wrap64 ((wrap64 (rd l0 1)) + (wrap64 (256 * (wrap64 (rd l0 2)))))))) then (if (wrap64 (3 + (wrap64 ((wrap64 (rd l0 1)) + (wrap64 (256 * (wrap64 (rd l0 2)))))))) ≤ (l0.length : Int) then ((waggonerref16_may.f (wrap64 (rd l0 0)) ((l0.take ((wrap64 (3 + (wrap64 ((wrap64 (rd l0 1)) + (wrap64 (256 * (wrap64 (rd l0 2)))))))) : Int).toNat).drop 3)).bind fun bt381 => ((waggonerref16_Write.f bt381.1 bt381.2.1 bt381.2.2.1 bt381.2.2.2.1 bt381.2.2.2.2.1 bt381.2.2.2.2.2.1 bt381.2.2.2.2.2.2).bind fun bt391 => (if bt391.2 = 0 then (if 0 ≤ (wrap64 ((wrap64 ((wrap64 (rd l0 1)) + (wrap64 (256 * (wrap64 (rd l0 2)))))) + 7)) then (if (wrap64 ((wrap64 ((wrap64 (rd l0 1)) + (wrap64 (256 * (wrap64 (rd l0 2)))))) + 7)) ≤ (l0.length : Int) then (if (strOfNums bt391.1).toList = (strOfNums (l0.take ((wrap64 ((wrap64 ((wrap64 (rd l0 1)) + (wrap64 (256 * (wrap64 (rd l0 2)))))) + 7)) : Int).toNat)).toList then (some (bt381.1, bt381.2.1, bt381.2.2.1, bt381.2.2.2.1, bt381.2.2.2.2.1, bt381.2.2.2.2.2.1, bt381.2.2.2.2.2.2, wrap64 ((wrap64 ((wrap64 (rd l0 1)) + (wrap64 (256 * (wrap64 (rd l0 2)))))) + 7), 0)) else (some (0, 0, 0, ([] : List Int), 0, 0, 0, 0, 160))) else (none)) else (none)) else (some (0, 0, 0, ([] : List Int), 0, 0, 0, 0, 160))))) else (none)) else (none)) else (none))) else (none)) else (none))) = some (r1, r2, r3, r4, r5, r6, r7, r8, r9) := h
 clear h
 by_cases c2 : (l0.length : Int) < 3
 ·rw [if_pos c2] at H
  have c2b0 : decide ((l0.length : Int) < 3) = true := decide_eq_true c2
  have c2b1 : decide (l0.length < 3) = true := decide_eq_true (by omega)
  clear c2
  simp only [Option.some.injEq, Prod.mk.injEq] at H
  obtain ⟨rfl, rfl, rfl, rfl, rfl, rfl, rfl, rfl, rfl⟩ := H
  go_enter Try.func22, Try.ntmps22
  go_wp2_with (first | ((with_reducible refine gate_dst (N := 2) rfl ?_); refine Cz.bx (N := 2) #[.int .i64 0, .int .i64 0, .int .i64 0, .slice none 0 0, .int .i64 0, .int .i64 0, .int .i64 0] 38 ?_; intro gb376 hg w3 hbox hb; have BK376 := Aside0.mk (hbox); have GW376 := Aside0.mk ((Cz.gs hg : w.heap.size ≤ gb376)); have GE376 := GW376; replace HB := Cz.bs (w := w) hb; clear hb hbox hg; obtain ⟨z4_0, z4_1, z4_2, z4_3, z4_4, z4_5, z4_6, y4_0, y4_1, y4_2, y4_3, y4_4, y4_5, y4_6⟩ := Cz.d7 BK376))
  refine bodyPost_ret (results_ctt rfl _ _ gb376 38 #[.int .i64 0, .int .i64 0, .int .i64 0, .slice none 0 0, .int .i64 0, .int .i64 0, .int .i64 0] (0, 0) _ rfl (by (with_reducible repeat (first | refine blk_drewN ?_ _ | refine blk_drew ?_ | refine blk_alloc ?_ _)); apply Cz.a7; (with_reducible repeat (first | refine blk_drewN ?_ _ | refine blk_drew ?_ | refine blk_alloc ?_ _)); exact BK376.out) Try.underlying38 rfl (by kernel_rfl)) rfl ?_
  exact ⟨_, Cz.er, by first | exact Kd.R_nil _ _ _ _ _ | exact Kd.N_nil _ _ _ _ _ | exact Kd.V_nil _ _ _ _ _ | exact Kd.Q_nil _ _ _ _ _ | exact Kd.S_nil _ _ _ _ _, Cz.bl (w := w)⟩
 ·rw [if_neg c2] at H
  have c2b0 : decide ((l0.length : Int) < 3) = false := decide_eq_false c2
  have c2b1 : decide (l0.length < 3) = false := decide_eq_false (by omega)
  clear c2
  by_cases c5 : 1 < (l0.length : Int)
  ·rw [if_pos c5] at H
   have c5b0 : decide (1 < (l0.length : Int)) = true := decide_eq_true c5
   have c5b1 : decide (1 < l0.length) = true := decide_eq_true (by omega)
   clear c5
   by_cases c6 : 2 < (l0.length : Int)
   ·rw [if_pos c6] at H
    have c6b0 : decide (2 < (l0.length : Int)) = true := decide_eq_true c6
    have c6b1 : decide (2 < l0.length) = true := decide_eq_true (by omega)
    clear c6
    by_cases c7 : (l0.length : Int) < (wrap64 ((wrap64 ((wrap64 (rd l0 1)) + (wrap64 (256 * (wrap64 (rd l0 2)))))) + 7))
    ·rw [if_pos c7] at H
     have c7b0 : decide ((l0.length : Int) < (wrap64 ((wrap64 ((wrap64 (rd l0 1)) + (wrap64 (256 * (wrap64 (rd l0 2)))))) + 7))) = true := decide_eq_true c7
     clear c7
     simp only [Option.some.injEq, Prod.mk.injEq] at H
     obtain ⟨rfl, rfl, rfl, rfl, rfl, rfl, rfl, rfl, rfl⟩ := H
     go_enter Try.func22, Try.ntmps22
     try go_wp2_with (first | ((with_reducible refine gate_dst (N := 2) rfl ?_); refine Cz.bx (N := 2) #[.int .i64 0, .int .i64 0, .int .i64 0, .slice none 0 0, .int .i64 0, .int .i64 0, .int .i64 0] 38 ?_; intro gb376 hg w8 hbox hb; have BK376 := Aside0.mk (hbox); have GW376 := Aside0.mk ((Cz.gs hg : w.heap.size ≤ gb376)); have GE376 := GW376; replace HB := Cz.bs (w := w) hb; clear hb hbox hg))
     replace BK376 := Aside0.mk (blk_drew BK376.out)
     replace HB := Aside0.mk (below_drew1 HB.out)
     have p377 : 0 ≤ (1 : Int) := (by omega)
     have q377 : 1 < (l0.length : Int) := of_decide_eq_true (by first | (with_reducible assumption) | assumption)
     obtain ⟨ad377, e377, hx377_0⟩ := Kd.at_int HR0.out 1 p377 q377
     have hw377_0 := hx377_0
     (try rw [show ((1 : Int)).toNat = 1 from rfl] at hw377_0)
     (try rw [show 1 * 1 = 1 from rfl] at hw377_0)
     (try simp only [Nat.reduceMul, Nat.reduceEqDiff, Go.Addr.add, ↓reduceIte] at hw377_0)
     cases e377
     (try simp only [show (1 : Int).toNat = 1 from rfl, Nat.reduceMul, Nat.reduceEqDiff, Go.Addr.add, ↓reduceIte] at hx377_0)
     have qi377 : (1 < l0.length) = True := eq_true (by omega)
     (try rw [show ((1 : Int)).toNat = 1 from rfl] at hx377_0)
     replace hx377_0 := (HB.out.cell (World.block_lt_of_cell? w _ hx377_0)).trans hx377_0
     replace p377 := eq_true p377
     replace q377 := eq_true q377
     have p378 : 0 ≤ (2 : Int) := (by omega)
     have q378 : 2 < (l0.length : Int) := of_decide_eq_true (by first | (with_reducible assumption) | assumption)
     obtain ⟨ad378, e378, hx378_0⟩ := Kd.at_int HR0.out 2 p378 q378
     have hw378_0 := hx378_0
     (try rw [show ((2 : Int)).toNat = 2 from rfl] at hw378_0)
     (try rw [show 2 * 1 = 2 from rfl] at hw378_0)
     (try simp only [Nat.reduceMul, Nat.reduceEqDiff, Go.Addr.add, ↓reduceIte] at hw378_0)
     obtain rfl : ad377 = ad378 := (by injection e378)
     (try simp only [show (2 : Int).toNat = 2 from rfl, Nat.reduceMul, Nat.reduceEqDiff, Go.Addr.add, ↓reduceIte] at hx378_0)
     have qi378 : (2 < l0.length) = True := eq_true (by omega)
     (try rw [show ((2 : Int)).toNat = 2 from rfl] at hx378_0)
     replace hx378_0 := (HB.out.cell (World.block_lt_of_cell? w _ hx378_0)).trans hx378_0
     replace p378 := eq_true p378
     replace q378 := eq_true q378
     refine start_ (n := 11) (S := fun w' => w'.cell? ⟨ad377.block, ad377.off + 1, none⟩ = some (.int .u8 (rd l0 1)) ∧ w'.cell? ⟨ad377.block, ad377.off + 2, none⟩ = some (.int .u8 (rd l0 2))) (ds := []) #[false, false, false, false, false, false, false, false, false, false, false] (by kernel_rfl) rfl rfl ⟨((HB.out.cell (World.block_lt_of_cell? w _ hw377_0)).trans hw377_0), ((HB.out.cell (World.block_lt_of_cell? w _ hw378_0)).trans hw378_0)⟩ (fun hHeld => ?_); refine with_tabW waggonerref16_Read_p.tab3 waggonerref16_Read_p.bits3 (fun HT_ HW_ => ?_)
     generalize w8.drew = w9 at BK376 HB hx377_0 hx378_0 hHeld ⊢
     refine Cz.qP 0 13 HT_ ?_
     refine Cz.qP 1 14 HT_ ?_
     refine Cz.qP 4 17 HT_ ?_
     refine Cz.qP 5 18 HT_ ?_
     refine Cz.qT 2 15 HT_ HW_ hHeld ?_
     refine Cz.qP 3 16 HT_ ?_
     refine Cz.qT 6 19 HT_ HW_ hHeld ?_
     refine Cz.qP 7 20 HT_ ?_
     refine Cz.qP 8 21 HT_ ?_
     refine Cz.qP 9 22 HT_ ?_
     refine Cz.qP 10 5 HT_ ?_
     refine done_ (done_of HT_.out (by kernel_rfl)) ?_
     obtain ⟨z10_0, z10_1, z10_2, z10_3, z10_4, z10_5, z10_6, y10_0, y10_1, y10_2, y10_3, y10_4, y10_5, y10_6⟩ := Cz.d7 BK376
     try go_wp2
     refine bodyPost_ret (results_ctt rfl _ _ gb376 38 #[.int .i64 0, .int .i64 0, .int .i64 0, .slice none 0 0, .int .i64 0, .int .i64 0, .int .i64 0] (0, 0) _ rfl (by (with_reducible repeat (first | refine blk_drewN ?_ _ | refine blk_drew ?_ | refine blk_alloc ?_ _)); apply Cz.a7; (with_reducible repeat (first | refine blk_drewN ?_ _ | refine blk_drew ?_ | refine blk_alloc ?_ _)); exact BK376.out) Try.underlying38 rfl (by kernel_rfl)) rfl ?_
     exact ⟨_, Cz.er, by first | exact Kd.R_nil _ _ _ _ _ | exact Kd.N_nil _ _ _ _ _ | exact Kd.V_nil _ _ _ _ _ | exact Kd.Q_nil _ _ _ _ _ | exact Kd.S_nil _ _ _ _ _, Cz.bl (w := w)⟩
    ·rw [if_neg c7] at H
     have c7b0 : decide ((l0.length : Int) < (wrap64 ((wrap64 ((wrap64 (rd l0 1)) + (wrap64 (256 * (wrap64 (rd l0 2)))))) + 7))) = false := decide_eq_false c7
     clear c7
     by_cases c11 : 0 < (l0.length : Int)
     ·rw [if_pos c11] at H
      have c11b0 : decide (0 < (l0.length : Int)) = true := decide_eq_true c11
      have c11b1 : decide (0 < l0.length) = true := decide_eq_true (by omega)
      clear c11
      by_cases c12 : 3 ≤ (wrap64 (3 + (wrap64 ((wrap64 (rd l0 1)) + (wrap64 (256 * (wrap64 (rd l0 2))))))))
      ·rw [if_pos c12] at H
       have c12b0 := eq_true c12
       have c12b1 : decide (3 ≤ (wrap64 (3 + (wrap64 ((wrap64 (rd l0 1)) + (wrap64 (256 * (wrap64 (rd l0 2))))))))) = true := decide_eq_true c12
       by_cases c13 : (wrap64 (3 + (wrap64 ((wrap64 (rd l0 1)) + (wrap64 (256 * (wrap64 (rd l0 2)))))))) ≤ (l0.length : Int)
       ·rw [if_pos c13] at H
        have c13b0 := eq_true c13
        have c13b1 : decide ((wrap64 (3 + (wrap64 ((wrap64 (rd l0 1)) + (wrap64 (256 * (wrap64 (rd l0 2)))))))) ≤ (l0.length : Int)) = true := decide_eq_true c13
        replace H := Option.bind_eq_some_iff.mp H
        obtain ⟨⟨t381, t382, t383, t384, t387, t388, t389⟩, A140, H⟩ := H
        (try dsimp only at H)
        have A14 := Aside0.mk A140
        clear A140
        replace H := Option.bind_eq_some_iff.mp H
        obtain ⟨⟨t391, t394⟩, A150, H⟩ := H
        (try dsimp only at H)
        have A15 := Aside0.mk A150
        clear A150
        by_cases c16 : t394 = 0
        ·rw [if_pos c16] at H
         have c16b0 : (t394 == 0) = true := beq_iff_eq.mpr c16
         have c16b1 : (t394 != 0) = false := bne_eq_false_iff_eq.mpr c16
         clear c16
         obtain ⟨ji17, hji17⟩ : ∃ j_ : Int, (wrap64 ((wrap64 ((wrap64 (rd l0 1)) + (wrap64 (256 * (wrap64 (rd l0 2)))))) + 7)) = j_ := ⟨_, rfl⟩
         replace H : (if 0 ≤ (ji17) then (if (ji17) ≤ (l0.length : Int) then (if (strOfNums t391).toList = (strOfNums (l0.take ((ji17) : Int).toNat)).toList then (some (t381, t382, t383, t384, t387, t388, t389, ji17, 0)) else (some (0, 0, 0, ([] : List Int), 0, 0, 0, 0, 160))) else (none)) else (none)) = some (r1, r2, r3, r4, r5, r6, r7, r8, r9) := by first | (rw [hji17] at H; exact H) | (simp only [hji17] at H ⊢; exact H)
         (try rw [hji17] at c7b0)
         (try rw [hji17] at A14)
         (try rw [hji17] at A15)
         have hji17w : (IntKind.i64.wrap ((wrap64 ((wrap64 (rd l0 1)) + (wrap64 (256 * (wrap64 (rd l0 2)))))) + 7)) = ji17 := (i64_w _).trans hji17
         by_cases c18 : 0 ≤ (ji17)
         ·rw [if_pos c18] at H
          have c18b0 := eq_true c18
          have c18b1 : decide (0 ≤ (ji17)) = true := decide_eq_true c18
          clear c18
          by_cases c19 : (ji17) ≤ (l0.length : Int)
          ·rw [if_pos c19] at H
           have c19b0 := eq_true c19
           have c19b1 : decide ((ji17) ≤ (l0.length : Int)) = true := decide_eq_true c19
           clear c19
           by_cases c20 : (strOfNums t391).toList = (strOfNums (l0.take ((ji17) : Int).toNat)).toList
           ·rw [if_pos c20] at H
            have c20b0 : ((strOfNums t391).toList == (strOfNums (l0.take ((ji17) : Int).toNat)).toList) = true := beq_iff_eq.mpr c20
            have c20b1 : ((strOfNums t391).toList != (strOfNums (l0.take ((ji17) : Int).toNat)).toList) = false := bne_eq_false_iff_eq.mpr c20
            clear c20
            simp only [Option.some.injEq, Prod.mk.injEq] at H
            obtain ⟨rfl, rfl, rfl, rfl, rfl, rfl, rfl, rfl, rfl⟩ := H
            go_enter Try.func22, Try.ntmps22
            try go_wp2_with (first | ((with_reducible refine gate_dst (N := 2) rfl ?_); refine Cz.bx (N := 2) #[.int .i64 0, .int .i64 0, .int .i64 0, .slice none 0 0, .int .i64 0, .int .i64 0, .int .i64 0] 38 ?_; intro gb376 hg w21 hbox hb; have BK376 := Aside0.mk (hbox); have GW376 := Aside0.mk ((Cz.gs hg : w.heap.size ≤ gb376)); have GE376 := GW376; replace HB := Cz.bs (w := w) hb; clear hb hbox hg))
            replace BK376 := Aside0.mk (blk_drew BK376.out)
            replace HB := Aside0.mk (below_drew1 HB.out)
            have p377 : 0 ≤ (1 : Int) := (by omega)
            have q377 : 1 < (l0.length : Int) := of_decide_eq_true (by first | (with_reducible assumption) | assumption)
            obtain ⟨ad377, e377, hx377_0⟩ := Kd.at_int HR0.out 1 p377 q377
            have hw377_0 := hx377_0
            (try rw [show ((1 : Int)).toNat = 1 from rfl] at hw377_0)
            (try rw [show 1 * 1 = 1 from rfl] at hw377_0)
            (try simp only [Nat.reduceMul, Nat.reduceEqDiff, Go.Addr.add, ↓reduceIte] at hw377_0)
            cases e377
            (try simp only [show (1 : Int).toNat = 1 from rfl, Nat.reduceMul, Nat.reduceEqDiff, Go.Addr.add, ↓reduceIte] at hx377_0)
            have qi377 : (1 < l0.length) = True := eq_true (by omega)
            (try rw [show ((1 : Int)).toNat = 1 from rfl] at hx377_0)
            replace hx377_0 := (HB.out.cell (World.block_lt_of_cell? w _ hx377_0)).trans hx377_0
            replace p377 := eq_true p377
            replace q377 := eq_true q377
            have p378 : 0 ≤ (2 : Int) := (by omega)
            have q378 : 2 < (l0.length : Int) := of_decide_eq_true (by first | (with_reducible assumption) | assumption)
            obtain ⟨ad378, e378, hx378_0⟩ := Kd.at_int HR0.out 2 p378 q378
            have hw378_0 := hx378_0
            (try rw [show ((2 : Int)).toNat = 2 from rfl] at hw378_0)
            (try rw [show 2 * 1 = 2 from rfl] at hw378_0)
            (try simp only [Nat.reduceMul, Nat.reduceEqDiff, Go.Addr.add, ↓reduceIte] at hw378_0)
            obtain rfl : ad377 = ad378 := (by injection e378)
            (try simp only [show (2 : Int).toNat = 2 from rfl, Nat.reduceMul, Nat.reduceEqDiff, Go.Addr.add, ↓reduceIte] at hx378_0)
            have qi378 : (2 < l0.length) = True := eq_true (by omega)
            (try rw [show ((2 : Int)).toNat = 2 from rfl] at hx378_0)
            replace hx378_0 := (HB.out.cell (World.block_lt_of_cell? w _ hx378_0)).trans hx378_0
            replace p378 := eq_true p378
            replace q378 := eq_true q378
            refine start_ (n := 11) (S := fun w' => w'.cell? ⟨ad377.block, ad377.off + 1, none⟩ = some (.int .u8 (rd l0 1)) ∧ w'.cell? ⟨ad377.block, ad377.off + 2, none⟩ = some (.int .u8 (rd l0 2))) (ds := []) #[false, false, false, false, false, false, false, false, false, false, false] (by kernel_rfl) rfl rfl ⟨((HB.out.cell (World.block_lt_of_cell? w _ hw377_0)).trans hw377_0), ((HB.out.cell (World.block_lt_of_cell? w _ hw378_0)).trans hw378_0)⟩ (fun hHeld => ?_); refine with_tabW waggonerref16_Read_p.tab3 waggonerref16_Read_p.bits3 (fun HT_ HW_ => ?_)
            generalize w21.drew = w22 at BK376 HB hx377_0 hx378_0 hHeld ⊢
            refine Cz.qP 0 13 HT_ ?_
            refine Cz.qP 1 14 HT_ ?_
            refine Cz.qP 4 17 HT_ ?_
            refine Cz.qP 5 18 HT_ ?_
            refine Cz.qT 2 15 HT_ HW_ hHeld ?_
            refine Cz.qP 3 16 HT_ ?_
            refine Cz.qT 6 19 HT_ HW_ hHeld ?_
            refine Cz.qP 7 20 HT_ ?_
            refine Cz.qP 8 21 HT_ ?_
            refine Cz.qP 9 22 HT_ ?_
            refine Cz.qP 10 5 HT_ ?_
            refine done_ (done_of HT_.out (by kernel_rfl)) ?_
            try go_wp2
            replace BK376 := Aside0.mk (blk_drew BK376.out)
            replace HB := Aside0.mk (below_drew1 HB.out)
            have p379 : 0 ≤ (0 : Int) := (by omega)
            have q379 : 0 < (l0.length : Int) := of_decide_eq_true (by first | (with_reducible assumption) | assumption)
            obtain ⟨ad379, e379, hx379_0⟩ := Kd.at_int HR0.out 0 p379 q379
            have hw379_0 := hx379_0
            (try rw [show ((0 : Int)).toNat = 0 from rfl] at hw379_0)
            (try rw [show 0 * 1 = 0 from rfl] at hw379_0)
            (try rw [Addr.add_zero'] at hw379_0)
            obtain rfl : ad377 = ad379 := (by injection e379)
            have qi379 : (0 < l0.length) = True := eq_true (by omega)
            (try rw [show ((0 : Int)).toNat = 0 from rfl] at hx379_0)
            (try rw [Addr.add_zero'] at hx379_0)
            replace hx379_0 := (HB.out.cell (World.block_lt_of_cell? w _ hx379_0)).trans hx379_0
            replace p379 := eq_true p379
            replace q379 := eq_true q379
            obtain ⟨i024, hi024, _, hsz24, _⟩ := info_parts info5
            obtain ⟨A24, hcut24, hA24, hC24⟩ := print_mid_of (P := Try.prog) (Value.int .u8) 0 27 5 .i64 .i64 Try.underlying27 hi024 hsz24 (some ad377) c0 l0 3 (wrap64 (3 + (wrap64 ((wrap64 (rd l0 1)) + (wrap64 (256 * (wrap64 (rd l0 2)))))))) (by omega) (by first | omega | exact of_decide_eq_true (by first | (with_reducible assumption) | assumption)) (of_decide_eq_true (by first | (with_reducible assumption) | assumption)) HC0.out
            have HR380 := Aside0.mk (Kd.C_of_reads (h1 := fun _ => rfl) (hA24 _ (Kd.reads_of_C HR0.out)))
            have HC380 := Aside0.mk hC24
            clear hA24 hC24 hi024 hsz24
            refine start_ (n := 11) (S := fun w' => w'.cell? ad377 = some (.int .u8 (rd l0 0))) (ds := [10]) #[false, false, false, false, false, false, false, false, false, false, false] (by kernel_rfl) rfl rfl (((HB.out.cell (World.block_lt_of_cell? w _ hw379_0)).trans hw379_0)) (fun hHeld => ?_); refine with_tabW waggonerref16_Read_p.tab6 waggonerref16_Read_p.bits6 (fun HT_ HW_ => ?_)
            generalize w22.drew = w23 at BK376 HB HR380 hx379_0 hHeld ⊢
            refine Cz.qP 0 29 HT_ ?_
            refine Cz.qP 1 30 HT_ ?_
            refine Cz.qP 4 33 HT_ ?_
            refine Cz.qP 5 34 HT_ ?_
            refine Cz.qP 6 35 HT_ ?_
            refine Cz.qP 7 36 HT_ ?_
            refine Cz.qT 2 31 HT_ HW_ hHeld ?_
            refine Cz.qP 3 32 HT_ ?_
            refine join_ (σ := Value × Nat) 1 #[true, true, true, true, true, true, true, true, true, true, false] (fun s_ => [(37, .agg #[.int .i64 t381, .int .i64 t382, .int .i64 t383, s_.1, .int .i64 t387, .int .i64 t388, .int .i64 t389]), (6, .pointer (some ⟨s_.2, 0, none⟩))]) (fun s_ w' => (w'.cell? ad377 = some (.int .u8 (rd l0 0))) ∧ (Kd.R (Kd.int .u8) 5 w' w.heap.size (fun _ => True) s_.1 t384) ∧ (w'.heap[gb376]? = some (.cells #[.int .i64 0, .int .i64 0, .int .i64 0, .slice none 0 0, .int .i64 0, .int .i64 0, .int .i64 0] 38 (0, 0))) ∧ (w'.heap[s_.2]? = some (.cells #[.int .i64 0, .int .i64 0, .int .i64 0, .slice none 0 0, .int .i64 0, .int .i64 0, .int .i64 0] 38 (0, 0))) ∧ (w.heap.size ≤ s_.2) ∧ (w.heap.size ≤ s_.2) ∧ (gb376 ≠ s_.2) ∧ (s_.2 ≠ gb376) ∧ (Below w.heap.size w w')) ?_ ?_
            rotate_left
            ·intro hCont
             refine two_ (i := 8) (j := 9) (Ni := some 37) (Nj := some 6) #[true, true, true, true, true, true, true, true, true, false, false] #[true, true, true, true, true, true, true, true, false, true, false] rfl rfl rfl rfl (two_of HT_.out (by kernel_rfl)) (by decide) (by decide) (fun K hK => ?_) (fun K hK => ?_)
             ·skip
              refine goes_ Try.func48 (by kernel_rfl) rfl #[.int .i64 (wrap64 (rd l0 0)), .slice A24 ((l0.take ((wrap64 (3 + (wrap64 ((wrap64 (rd l0 1)) + (wrap64 (256 * (wrap64 (rd l0 2)))))))) : Int).toNat).drop 3).length (c0 - 3)] (by rfl) rfl rfl (by (try simp only [List.map_toArray, List.map_cons, List.map_nil]); first | done | (rw [show ((l0.take ((wrap64 (3 + (wrap64 ((wrap64 (rd l0 1)) + (wrap64 (256 * (wrap64 (rd l0 2)))))))) : Int).toNat).drop 3).length = ((wrap64 (3 + (wrap64 ((wrap64 (rd l0 1)) + (wrap64 (256 * (wrap64 (rd l0 2)))))))).toNat - 3) from (by rw [List.length_drop, List.length_take]; have h_ : ((wrap64 (3 + (wrap64 ((wrap64 (rd l0 1)) + (wrap64 (256 * (wrap64 (rd l0 2)))))))) : Int) ≤ (l0.length : Int) := of_decide_eq_true (by first | (with_reducible assumption) | assumption); omega)] <;> rfl) | rfl | (simp only [List.length_drop, List.length_take]; rfl)) ?_
              with_reducible refine (waggonerref16_may.calls (wrap64 (rd l0 0)) _ _ ((l0.take ((wrap64 (3 + (wrap64 ((wrap64 (rd l0 1)) + (wrap64 (256 * (wrap64 (rd l0 2)))))))) : Int).toNat).drop 3) t381 t382 t383 t384 t387 t388 t389 _ ?side1 ?side2 A14.out).mono ?_
              (case side1 => exact Cz.cb HR380)
              (case side2 => exact HC380.out)
              rintro e w25 ⟨v385, rfl, ho0, hb⟩
              refine ⟨_, rfl, ?_⟩
              have HO386 := Aside0.mk (Kd.R_lower ho0 (below_size (Cz.bl (w := w))))
              replace BK376 := Cz.bk BK376 hb
              replace HB := Cz.bs (w := w) hb
              (try clear hb)
              (try clear hb2)
              (try clear hk)
              (try clear hi)
              (try clear ho0)
              refine hK.out _ _ (((HB.out.cell (World.block_lt_of_cell? w _ hw379_0)).trans hw379_0)) (fun hHeld => ?_)
              clear hK K
              refine norm_ (a' := ?_) ?_ ?_
              rotate_left
              ·show Act.put _ (some 37) _ = _
               simp only [Act.put, Kx.sb, Kx.sz, Kx.ss, i64_w, i32_w]
               rfl
              refine Cz.qO (N := some 6) 9 HT_ (fun K hK => ?_)
              refine box_step ?hg (N := 6) ?hd (cs := #[.int .i64 0, .int .i64 0, .int .i64 0, .slice none 0 0, .int .i64 0, .int .i64 0, .int .i64 0]) (t := 38) ?hr ?_; (case hd => rfl); (case hg => rfl); (case hr => first | (go_simp; done) | (go_simp; rfl))
              intro gb390 hg w26 hbox hb
              have BK390 := Aside0.mk (hbox)
              have GW390 := Aside0.mk ((Cz.gs hg : w.heap.size ≤ gb390))
              have GE390 := GW390
              have NB376_390 := Aside0.mk ((Cz.nl BK376 hg : gb376 ≠ gb390))
              have NB390_376 := Aside0.mk ((Cz.nr BK376 hg : gb390 ≠ gb376))
              replace HO386 := Cz.rb HO386 hb
              replace BK376 := Cz.bk BK376 hb
              replace HB := Cz.bs (w := w) hb
              clear hb hbox hg
              refine hK.out _ _ (((HB.out.cell (World.block_lt_of_cell? w _ hw379_0)).trans hw379_0)) (fun hHeld => ?_)
              clear hK K
              refine norm_ (a' := ?_) ?_ ?_
              rotate_left
              ·show Act.put _ (some 6) _ = _
               simp only [Act.put, Kx.sb, Kx.sz, Kx.ss, i64_w, i32_w]
               rfl
              exact norm_ (by simp only [putAll, Act.put, Kx.sb, Kx.sz, Kx.ss]) (hCont (v385, gb390) _ ⟨hHeld, (by (with_reducible repeat (first | apply Kd.R_alloc | apply Kd.R_drewN | apply Kd.R_drew)); exact HO386.out), (by (with_reducible repeat (first | refine blk_drewN ?_ _ | refine blk_drew ?_ | refine blk_alloc ?_ _)); exact BK376.out), (by (with_reducible repeat (first | refine blk_drewN ?_ _ | refine blk_drew ?_ | refine blk_alloc ?_ _)); exact BK390.out), GW390.out, GE390.out, NB376_390.out, NB390_376.out, (Cz.bl (w := w))⟩)
             ·skip
              refine box_step ?hg (N := 6) ?hd (cs := #[.int .i64 0, .int .i64 0, .int .i64 0, .slice none 0 0, .int .i64 0, .int .i64 0, .int .i64 0]) (t := 38) ?hr ?_; (case hd => rfl); (case hg => rfl); (case hr => first | (go_simp; done) | (go_simp; rfl))
              intro gb390 hg w25 hbox hb
              have BK390 := Aside0.mk (hbox)
              have GW390 := Aside0.mk ((Cz.gs hg : w.heap.size ≤ gb390))
              have GE390 := GW390
              have NB376_390 := Aside0.mk ((Cz.nl BK376 hg : gb376 ≠ gb390))
              have NB390_376 := Aside0.mk ((Cz.nr BK376 hg : gb390 ≠ gb376))
              replace BK376 := Cz.bk BK376 hb
              replace HB := Cz.bs (w := w) hb
              clear hb hbox hg
              refine hK.out _ _ (((HB.out.cell (World.block_lt_of_cell? w _ hw379_0)).trans hw379_0)) (fun hHeld => ?_)
              clear hK K
              refine norm_ (a' := ?_) ?_ ?_
              rotate_left
              ·show Act.put _ (some 6) _ = _
               simp only [Act.put, Kx.sb, Kx.sz, Kx.ss, i64_w, i32_w]
               rfl
              refine Cz.qO (N := some 37) 8 HT_ (fun K hK => ?_)
              refine goes_ Try.func48 (by kernel_rfl) rfl #[.int .i64 (wrap64 (rd l0 0)), .slice A24 ((l0.take ((wrap64 (3 + (wrap64 ((wrap64 (rd l0 1)) + (wrap64 (256 * (wrap64 (rd l0 2)))))))) : Int).toNat).drop 3).length (c0 - 3)] (by rfl) rfl rfl (by (try simp only [List.map_toArray, List.map_cons, List.map_nil]); first | done | (rw [show ((l0.take ((wrap64 (3 + (wrap64 ((wrap64 (rd l0 1)) + (wrap64 (256 * (wrap64 (rd l0 2)))))))) : Int).toNat).drop 3).length = ((wrap64 (3 + (wrap64 ((wrap64 (rd l0 1)) + (wrap64 (256 * (wrap64 (rd l0 2)))))))).toNat - 3) from (by rw [List.length_drop, List.length_take]; have h_ : ((wrap64 (3 + (wrap64 ((wrap64 (rd l0 1)) + (wrap64 (256 * (wrap64 (rd l0 2)))))))) : Int) ≤ (l0.length : Int) := of_decide_eq_true (by first | (with_reducible assumption) | assumption); omega)] <;> rfl) | rfl | (simp only [List.length_drop, List.length_take]; rfl)) ?_
              with_reducible refine (waggonerref16_may.calls (wrap64 (rd l0 0)) _ _ ((l0.take ((wrap64 (3 + (wrap64 ((wrap64 (rd l0 1)) + (wrap64 (256 * (wrap64 (rd l0 2)))))))) : Int).toNat).drop 3) t381 t382 t383 t384 t387 t388 t389 _ ?side1 ?side2 A14.out).mono ?_
              (case side1 => exact Cz.cb HR380)
              (case side2 => exact HC380.out)
              rintro e w26 ⟨v385, rfl, ho0, hb⟩
              refine ⟨_, rfl, ?_⟩
              have HO386 := Aside0.mk (Kd.R_lower ho0 (below_size (Cz.bl (w := w))))
              replace BK376 := Cz.bk BK376 hb
              replace BK390 := Cz.bk BK390 hb
              replace HB := Cz.bs (w := w) hb
              (try clear hb)
              (try clear hb2)
              (try clear hk)
              (try clear hi)
              (try clear ho0)
              refine hK.out _ _ (((HB.out.cell (World.block_lt_of_cell? w _ hw379_0)).trans hw379_0)) (fun hHeld => ?_)
              clear hK K
              refine norm_ (a' := ?_) ?_ ?_
              rotate_left
              ·show Act.put _ (some 37) _ = _
               simp only [Act.put, Kx.sb, Kx.sz, Kx.ss, i64_w, i32_w]
               rfl
              exact norm_ (by simp only [putAll, Act.put, Kx.sb, Kx.sz, Kx.ss]) (hCont (v385, gb390) _ ⟨hHeld, (by (with_reducible repeat (first | apply Kd.R_alloc | apply Kd.R_drewN | apply Kd.R_drew)); exact HO386.out), (by (with_reducible repeat (first | refine blk_drewN ?_ _ | refine blk_drew ?_ | refine blk_alloc ?_ _)); exact BK376.out), (by (with_reducible repeat (first | refine blk_drewN ?_ _ | refine blk_drew ?_ | refine blk_alloc ?_ _)); exact BK390.out), GW390.out, GE390.out, NB376_390.out, NB390_376.out, (Cz.bl (w := w))⟩)
            rintro ⟨v385, gb390⟩ w27 ⟨hS_, h0_, h1_, h2_, h3_, h4_, h5_, h6_, h7_⟩
            have n0_ : Aside0 (Kd.R (Kd.int .u8) 5 w27 w.heap.size (fun _ => True) v385 t384) := ⟨h0_⟩
            have n1_ : Aside0 (w27.heap[gb376]? = some (.cells #[.int .i64 0, .int .i64 0, .int .i64 0, .slice none 0 0, .int .i64 0, .int .i64 0, .int .i64 0] 38 (0, 0))) := ⟨h1_⟩
            have n2_ : Aside0 (w27.heap[gb390]? = some (.cells #[.int .i64 0, .int .i64 0, .int .i64 0, .slice none 0 0, .int .i64 0, .int .i64 0, .int .i64 0] 38 (0, 0))) := ⟨h2_⟩
            have n3_ : Aside0 (w.heap.size ≤ gb390) := ⟨h3_⟩
            have n4_ : Aside0 (w.heap.size ≤ gb390) := ⟨h4_⟩
            have n5_ : Aside0 (gb376 ≠ gb390) := ⟨h5_⟩
            have n6_ : Aside0 (gb390 ≠ gb376) := ⟨h6_⟩
            have n7_ : Aside0 (Below w.heap.size w w27) := ⟨h7_⟩
            clear BK376
            clear HB
            clear h0_ h1_ h2_ h3_ h4_ h5_ h6_ h7_
            have HO386 := n0_
            have BK376 := n1_
            have BK390 := n2_
            have GW390 := n3_
            have GE390 := n4_
            have NB376_390 := n5_
            have NB390_376 := n6_
            have HB := n7_
            clear n0_ n1_ n2_ n3_ n4_ n5_ n6_ n7_
            have hHeld : w27.cell? ad377 = some (.int .u8 (rd l0 0)) := hS_
            obtain ⟨Ao31, co31, eo31⟩ := Kd.R_slice HO386.out
            (first | subst eo31 | (injection eo31 with f1_ f2_ f3_; have f4_ := f1_.symm; have f5_ := f3_.symm; clear f1_ f2_ f3_; subst f4_; subst f5_))
            refine norm_ (a' := ?_) ?_ ?_
            rotate_left
            ·simp only [putAll, Act.put, Kx.sb, Kx.sz, Kx.ss]
             rfl
            refine last_ (i := 10) (N := none) #[true, true, true, true, true, true, true, true, true, true, true] rfl rfl (one_of HT_.out (by kernel_rfl)) (by decide) (fun K hK => ?_)
            have hs28 : w27.cell? ⟨gb390, 0, none⟩ = some (.int .i64 0) := (blk_cell BK390.out 0).trans rfl
            have hfs28 := blk_frozen BK390.out 0
            have hns28_0 := NB376_390.out
            have hms28_0 := NB390_376.out
            have hs29 : w27.cell? ⟨gb390, 1, none⟩ = some (.int .i64 0) := (blk_cell BK390.out 1).trans rfl
            have hfs29 := blk_frozen BK390.out 1
            have hns29_0 := NB376_390.out
            have hms29_0 := NB390_376.out
            have hs30 : w27.cell? ⟨gb390, 2, none⟩ = some (.int .i64 0) := (blk_cell BK390.out 2).trans rfl
            have hfs30 := blk_frozen BK390.out 2
            have hns30_0 := NB376_390.out
            have hms30_0 := NB390_376.out
            have hs32 : w27.cell? ⟨gb390, 3, none⟩ = some (.slice none 0 0) := (blk_cell BK390.out 3).trans rfl
            have hfs32 := blk_frozen BK390.out 3
            have hns32_0 := NB376_390.out
            have hms32_0 := NB390_376.out
            have hs33 : w27.cell? ⟨gb390, 4, none⟩ = some (.int .i64 0) := (blk_cell BK390.out 4).trans rfl
            have hfs33 := blk_frozen BK390.out 4
            have hns33_0 := NB376_390.out
            have hms33_0 := NB390_376.out
            have hs34 : w27.cell? ⟨gb390, 5, none⟩ = some (.int .i64 0) := (blk_cell BK390.out 5).trans rfl
            have hfs34 := blk_frozen BK390.out 5
            have hns34_0 := NB376_390.out
            have hms34_0 := NB390_376.out
            have hs35 : w27.cell? ⟨gb390, 6, none⟩ = some (.int .i64 0) := (blk_cell BK390.out 6).trans rfl
            have hfs35 := blk_frozen BK390.out 6
            have hns35_0 := NB376_390.out
            have hms35_0 := NB390_376.out
            refine skip_ (w1 := ?_) (by rfl) rfl ?_ ?_
            rotate_left
            ·go_simp
             rfl
            refine hK.out _ _ ?_
            clear hK K
            refine done_ (done_of HT_.out (by kernel_rfl)) ?_
            have hnb36 := NB390_376.out
            have hnc36 := NB376_390.out
            obtain ⟨z37_0, z37_1, z37_2, z37_3, z37_4, z37_5, z37_6, y37_0, y37_1, y37_2, y37_3, y37_4, y37_5, y37_6⟩ := Cz.d7 BK390
            try go_wp2_with (first | ((with_reducible refine gate_callee (f := 20) rfl ?_); refine Cz.gL (N := (some 40)) Try.func20 #[.agg #[.int .i64 t381, .int .i64 t382, .int .i64 t383, .slice Ao31 t384.length co31, .int .i64 t387, .int .i64 t388, .int .i64 t389]] ?_; (with_reducible refine (waggonerref16_Write.calls t381 t382 t383 _ _ t384 t387 t388 t389 t391 t394 _ ?side1 ?side2 A15.out).mono ?_); (case side1 => refine (Kd.R_reads' (e := 5) (base := w.heap.size) (ok := fun k_ => True) (n := t384.length) (c := co31) ?_).2.2; exact (by (with_reducible repeat (first | apply Kd.R_alloc | apply Kd.R_drewN | apply Kd.R_drew)); exact (Kd.R_mono (Cz.rf (Cz.rf (Cz.rf (Cz.rf (Cz.rf (Cz.rf (Cz.rf (Kd.R_types HO386.out BK390.out (by decide))))))))) (fun _ h_ => h_.1)))); (case side2 => exact (Kd.R_reads' HO386.out).2.1); rintro e w38 ⟨v392, rfl, ho0, hb⟩; refine ⟨_, rfl, ?_⟩; have HO393 := Aside0.mk (Kd.R_lower (Kd.R_new' ho0 (Kd.R_lt (by (with_reducible repeat (first | apply Kd.R_alloc | apply Kd.R_drewN | apply Kd.R_drew)); exact (Kd.R_mono (Cz.rf (Cz.rf (Cz.rf (Cz.rf (Cz.rf (Cz.rf (Cz.rf (Kd.R_types HO386.out BK390.out (by decide))))))))) (fun _ h_ => h_.1))))) (below_size (Cz.bl (w := w)))); replace HO386 := Aside0.mk (Kd.R_elder' (by (with_reducible repeat (first | apply Kd.R_alloc | apply Kd.R_drewN | apply Kd.R_drew)); exact (Kd.R_mono (Cz.rf (Cz.rf (Cz.rf (Cz.rf (Cz.rf (Cz.rf (Cz.rf (Kd.R_types HO386.out BK390.out (by decide))))))))) (fun _ h_ => h_.1))) (Kd.R_base ho0) hb); replace BK376 := Aside0.mk (blk_below (g := gb376) (o := .cells #[.int .i64 0, .int .i64 0, .int .i64 0, .slice none 0 0, .int .i64 0, .int .i64 0, .int .i64 0] 38 (0, 0)) (by (with_reducible repeat (first | refine blk_drewN ?_ _ | refine blk_drew ?_ | refine blk_alloc ?_ _)); refine blk_far ?_ NB376_390.out _; refine blk_far ?_ NB376_390.out _; refine blk_far ?_ NB376_390.out _; refine blk_far ?_ NB376_390.out _; refine blk_far ?_ NB376_390.out _; refine blk_far ?_ NB376_390.out _; refine blk_far ?_ NB376_390.out _; (with_reducible repeat (first | refine blk_drewN ?_ _ | refine blk_drew ?_ | refine blk_alloc ?_ _)); exact BK376.out) hb); replace BK390 := Aside0.mk (blk_below (g := gb390) (o := .cells #[.int .i64 t381, .int .i64 t382, .int .i64 t383, .slice Ao31 t384.length co31, .int .i64 t387, .int .i64 t388, .int .i64 t389] 38 (0, 0)) (by (with_reducible repeat (first | refine blk_drewN ?_ _ | refine blk_drew ?_ | refine blk_alloc ?_ _)); apply Cz.a7; (with_reducible repeat (first | refine blk_drewN ?_ _ | refine blk_drew ?_ | refine blk_alloc ?_ _)); exact BK390.out) hb); replace HB := Cz.bs (w := w) hb; (try clear hb); (try clear hk); (try clear ho0)))
            replace HO386 := Aside0.mk (Kd.R_drew HO386.out)
            replace HO393 := Aside0.mk (Kd.R_drew HO393.out)
            replace BK376 := Aside0.mk (blk_drew BK376.out)
            replace BK390 := Aside0.mk (blk_drew BK390.out)
            replace HB := Aside0.mk (below_drew1 HB.out)
            obtain ⟨i040, hi040, _, hsz40, _⟩ := info_parts info5
            obtain ⟨hcut40, hA40, hC40⟩ := print_take_of (P := Try.prog) (Value.int .u8) 0 27 5 .i64 Try.underlying27 hi040 hsz40 (some ad377) c0 l0 (ji17) (of_decide_eq_true (by first | (with_reducible assumption) | assumption)) (of_decide_eq_true (by first | (with_reducible assumption) | assumption)) HC0.out
            have HR395 := Aside0.mk (Kd.C_of_reads (h1 := fun _ => rfl) (hA40 _ (Kd.reads_of_C HR0.out)))
            have HC395 := Aside0.mk hC40
            clear hA40 hC40 hi040 hsz40
            refine start_ (n := 12) (S := fun w' => (convert 27 9 (v392)).run Try.prog w' = .ok (.string (strOfNums t391)) w' ∧ (convert 27 9 (.slice (some ad377) (ji17).toNat c0)).run Try.prog w' = .ok (.string (strOfNums (l0.take ((ji17) : Int).toNat))) w') (ds := []) #[false, false, false, false, false, false, false, false, false, false, false, false] (by kernel_rfl) rfl rfl ⟨(own_string (P := Try.prog) Try.underlying27 Try.underlying5 Try.underlying9 (Kd.own_of_R HO393.out)), (by have h_ := (Kd.C_string (P := Try.prog) (A := (some ad377)) (c := c0) Try.underlying27 Try.underlying5 Try.underlying9 (Kd.C_below HR395.out HB.out)); rw [show (l0.take ((ji17) : Int).toNat).length = (ji17).toNat from (by rw [List.length_take]; have h_ : ((ji17) : Int) ≤ (l0.length : Int) := of_decide_eq_true (by first | (with_reducible assumption) | assumption); omega)] at h_; exact h_)⟩ (fun hHeld => ?_); refine with_tabW waggonerref16_Read_p.tab8 waggonerref16_Read_p.bits8 (fun HT_ HW_ => ?_)
            generalize w38.drew = w39 at HO386 HO393 BK376 BK390 HB HR395 hHeld ⊢
            refine Cz.qP 0 43 HT_ ?_
            refine Cz.qP 1 44 HT_ ?_
            refine Cz.qP 2 45 HT_ ?_
            refine Cz.qP 3 46 HT_ ?_
            refine Cz.qP 5 48 HT_ ?_
            refine Cz.qP 6 49 HT_ ?_
            refine Cz.qP 7 50 HT_ ?_
            refine Cz.qP 8 51 HT_ ?_
            refine Cz.qT 4 47 HT_ HW_ hHeld ?_
            refine Cz.qT 9 52 HT_ HW_ hHeld ?_
            refine Cz.qP 10 53 HT_ ?_
            refine Cz.qP 11 54 HT_ ?_
            refine done_ (done_of HT_.out (by kernel_rfl)) ?_
            obtain ⟨z41_0, z41_1, z41_2, z41_3, z41_4, z41_5, z41_6, y41_0, y41_1, y41_2, y41_3, y41_4, y41_5, y41_6⟩ := Cz.d7 BK390
            obtain ⟨z42_0, z42_1, z42_2, z42_3, z42_4, z42_5, z42_6, y42_0, y42_1, y42_2, y42_3, y42_4, y42_5, y42_6⟩ := Cz.d7 BK376
            try go_wp2
            refine bodyPost_ret (results_ctt rfl _ _ gb376 38 #[.int .i64 t381, .int .i64 t382, .int .i64 t383, .slice Ao31 t384.length co31, .int .i64 t387, .int .i64 t388, .int .i64 t389] (0, 0) _ rfl (by (with_reducible repeat (first | refine blk_drewN ?_ _ | refine blk_drew ?_ | refine blk_alloc ?_ _)); apply Cz.a7; (with_reducible repeat (first | refine blk_drewN ?_ _ | refine blk_drew ?_ | refine blk_alloc ?_ _)); exact BK376.out) Try.underlying38 rfl (by kernel_rfl)) rfl ?_
            exact ⟨_, by first | rfl | (simp [errW_none, errW_some] <;> rfl) | (simp only [← hji17]; first | rfl | (simp [errW_none, errW_some] <;> rfl)) | (simp [*, errW_none, errW_some] <;> rfl), by (with_reducible repeat (first | apply Kd.R_alloc | apply Kd.R_drewN | apply Kd.R_drew)); exact Kd.R_mono (Cz.rf (Cz.rf (Cz.rf (Cz.rf (Cz.rf (Cz.rf (Cz.rf (Kd.R_types HO386.out BK376.out (by decide))))))))) (fun _ hk => trivial), Cz.bl (w := w)⟩
           ·rw [if_neg c20] at H
            have c20b0 : ((strOfNums t391).toList == (strOfNums (l0.take ((ji17) : Int).toNat)).toList) = false := beq_eq_false_iff_ne.mpr c20
            have c20b1 : ((strOfNums t391).toList != (strOfNums (l0.take ((ji17) : Int).toNat)).toList) = true := bne_iff_ne.mpr c20
            simp only [Option.some.injEq, Prod.mk.injEq] at H
            obtain ⟨rfl, rfl, rfl, rfl, rfl, rfl, rfl, rfl, rfl⟩ := H
            go_enter Try.func22, Try.ntmps22
            try go_wp2_with (first | ((with_reducible refine gate_dst (N := 2) rfl ?_); refine Cz.bx (N := 2) #[.int .i64 0, .int .i64 0, .int .i64 0, .slice none 0 0, .int .i64 0, .int .i64 0, .int .i64 0] 38 ?_; intro gb376 hg w43 hbox hb; have BK376 := Aside0.mk (hbox); have GW376 := Aside0.mk ((Cz.gs hg : w.heap.size ≤ gb376)); have GE376 := GW376; replace HB := Cz.bs (w := w) hb; clear hb hbox hg))
            replace BK376 := Aside0.mk (blk_drew BK376.out)
            replace HB := Aside0.mk (below_drew1 HB.out)
            have p377 : 0 ≤ (1 : Int) := (by omega)
            have q377 : 1 < (l0.length : Int) := of_decide_eq_true (by first | (with_reducible assumption) | assumption)
            obtain ⟨ad377, e377, hx377_0⟩ := Kd.at_int HR0.out 1 p377 q377
            have hw377_0 := hx377_0
            (try rw [show ((1 : Int)).toNat = 1 from rfl] at hw377_0)
            (try rw [show 1 * 1 = 1 from rfl] at hw377_0)
            (try simp only [Nat.reduceMul, Nat.reduceEqDiff, Go.Addr.add, ↓reduceIte] at hw377_0)
            cases e377
            (try simp only [show (1 : Int).toNat = 1 from rfl, Nat.reduceMul, Nat.reduceEqDiff, Go.Addr.add, ↓reduceIte] at hx377_0)
            have qi377 : (1 < l0.length) = True := eq_true (by omega)
            (try rw [show ((1 : Int)).toNat = 1 from rfl] at hx377_0)
            replace hx377_0 := (HB.out.cell (World.block_lt_of_cell? w _ hx377_0)).trans hx377_0
            replace p377 := eq_true p377
            replace q377 := eq_true q377
            have p378 : 0 ≤ (2 : Int) := (by omega)
            have q378 : 2 < (l0.length : Int) := of_decide_eq_true (by first | (with_reducible assumption) | assumption)
            obtain ⟨ad378, e378, hx378_0⟩ := Kd.at_int HR0.out 2 p378 q378
            have hw378_0 := hx378_0
            (try rw [show ((2 : Int)).toNat = 2 from rfl] at hw378_0)
            (try rw [show 2 * 1 = 2 from rfl] at hw378_0)
            (try simp only [Nat.reduceMul, Nat.reduceEqDiff, Go.Addr.add, ↓reduceIte] at hw378_0)
            obtain rfl : ad377 = ad378 := (by injection e378)
            (try simp only [show (2 : Int).toNat = 2 from rfl, Nat.reduceMul, Nat.reduceEqDiff, Go.Addr.add, ↓reduceIte] at hx378_0)
            have qi378 : (2 < l0.length) = True := eq_true (by omega)
            (try rw [show ((2 : Int)).toNat = 2 from rfl] at hx378_0)
            replace hx378_0 := (HB.out.cell (World.block_lt_of_cell? w _ hx378_0)).trans hx378_0
            replace p378 := eq_true p378
            replace q378 := eq_true q378
            refine start_ (n := 11) (S := fun w' => w'.cell? ⟨ad377.block, ad377.off + 1, none⟩ = some (.int .u8 (rd l0 1)) ∧ w'.cell? ⟨ad377.block, ad377.off + 2, none⟩ = some (.int .u8 (rd l0 2))) (ds := []) #[false, false, false, false, false, false, false, false, false, false, false] (by kernel_rfl) rfl rfl ⟨((HB.out.cell (World.block_lt_of_cell? w _ hw377_0)).trans hw377_0), ((HB.out.cell (World.block_lt_of_cell? w _ hw378_0)).trans hw378_0)⟩ (fun hHeld => ?_); refine with_tabW waggonerref16_Read_p.tab3 waggonerref16_Read_p.bits3 (fun HT_ HW_ => ?_)
            generalize w43.drew = w44 at BK376 HB hx377_0 hx378_0 hHeld ⊢
            refine Cz.qP 0 13 HT_ ?_
            refine Cz.qP 1 14 HT_ ?_
            refine Cz.qP 4 17 HT_ ?_
            refine Cz.qP 5 18 HT_ ?_
            refine Cz.qT 2 15 HT_ HW_ hHeld ?_
            refine Cz.qP 3 16 HT_ ?_
            refine Cz.qT 6 19 HT_ HW_ hHeld ?_
            refine Cz.qP 7 20 HT_ ?_
            refine Cz.qP 8 21 HT_ ?_
            refine Cz.qP 9 22 HT_ ?_
            refine Cz.qP 10 5 HT_ ?_
            refine done_ (done_of HT_.out (by kernel_rfl)) ?_
            try go_wp2
            replace BK376 := Aside0.mk (blk_drew BK376.out)
            replace HB := Aside0.mk (below_drew1 HB.out)
            have p379 : 0 ≤ (0 : Int) := (by omega)
            have q379 : 0 < (l0.length : Int) := of_decide_eq_true (by first | (with_reducible assumption) | assumption)
            obtain ⟨ad379, e379, hx379_0⟩ := Kd.at_int HR0.out 0 p379 q379
            have hw379_0 := hx379_0
            (try rw [show ((0 : Int)).toNat = 0 from rfl] at hw379_0)
            (try rw [show 0 * 1 = 0 from rfl] at hw379_0)
            (try rw [Addr.add_zero'] at hw379_0)
            obtain rfl : ad377 = ad379 := (by injection e379)
            have qi379 : (0 < l0.length) = True := eq_true (by omega)
            (try rw [show ((0 : Int)).toNat = 0 from rfl] at hx379_0)
            (try rw [Addr.add_zero'] at hx379_0)
            replace hx379_0 := (HB.out.cell (World.block_lt_of_cell? w _ hx379_0)).trans hx379_0
            replace p379 := eq_true p379
            replace q379 := eq_true q379
            obtain ⟨i046, hi046, _, hsz46, _⟩ := info_parts info5
            obtain ⟨A46, hcut46, hA46, hC46⟩ := print_mid_of (P := Try.prog) (Value.int .u8) 0 27 5 .i64 .i64 Try.underlying27 hi046 hsz46 (some ad377) c0 l0 3 (wrap64 (3 + (wrap64 ((wrap64 (rd l0 1)) + (wrap64 (256 * (wrap64 (rd l0 2)))))))) (by omega) (by first | omega | exact of_decide_eq_true (by first | (with_reducible assumption) | assumption)) (of_decide_eq_true (by first | (with_reducible assumption) | assumption)) HC0.out
            have HR380 := Aside0.mk (Kd.C_of_reads (h1 := fun _ => rfl) (hA46 _ (Kd.reads_of_C HR0.out)))
            have HC380 := Aside0.mk hC46
            clear hA46 hC46 hi046 hsz46
            refine start_ (n := 11) (S := fun w' => w'.cell? ad377 = some (.int .u8 (rd l0 0))) (ds := [10]) #[false, false, false, false, false, false, false, false, false, false, false] (by kernel_rfl) rfl rfl (((HB.out.cell (World.block_lt_of_cell? w _ hw379_0)).trans hw379_0)) (fun hHeld => ?_); refine with_tabW waggonerref16_Read_p.tab6 waggonerref16_Read_p.bits6 (fun HT_ HW_ => ?_)
            generalize w44.drew = w45 at BK376 HB HR380 hx379_0 hHeld ⊢
            refine Cz.qP 0 29 HT_ ?_
            refine Cz.qP 1 30 HT_ ?_
            refine Cz.qP 4 33 HT_ ?_
            refine Cz.qP 5 34 HT_ ?_
            refine Cz.qP 6 35 HT_ ?_
            refine Cz.qP 7 36 HT_ ?_
            refine Cz.qT 2 31 HT_ HW_ hHeld ?_
            refine Cz.qP 3 32 HT_ ?_
            refine join_ (σ := Value × Nat) 1 #[true, true, true, true, true, true, true, true, true, true, false] (fun s_ => [(37, .agg #[.int .i64 t381, .int .i64 t382, .int .i64 t383, s_.1, .int .i64 t387, .int .i64 t388, .int .i64 t389]), (6, .pointer (some ⟨s_.2, 0, none⟩))]) (fun s_ w' => (w'.cell? ad377 = some (.int .u8 (rd l0 0))) ∧ (Kd.R (Kd.int .u8) 5 w' w.heap.size (fun _ => True) s_.1 t384) ∧ (w'.heap[gb376]? = some (.cells #[.int .i64 0, .int .i64 0, .int .i64 0, .slice none 0 0, .int .i64 0, .int .i64 0, .int .i64 0] 38 (0, 0))) ∧ (w'.heap[s_.2]? = some (.cells #[.int .i64 0, .int .i64 0, .int .i64 0, .slice none 0 0, .int .i64 0, .int .i64 0, .int .i64 0] 38 (0, 0))) ∧ (w.heap.size ≤ s_.2) ∧ (w.heap.size ≤ s_.2) ∧ (gb376 ≠ s_.2) ∧ (s_.2 ≠ gb376) ∧ (Below w.heap.size w w')) ?_ ?_
            rotate_left
            ·intro hCont
             refine two_ (i := 8) (j := 9) (Ni := some 37) (Nj := some 6) #[true, true, true, true, true, true, true, true, true, false, false] #[true, true, true, true, true, true, true, true, false, true, false] rfl rfl rfl rfl (two_of HT_.out (by kernel_rfl)) (by decide) (by decide) (fun K hK => ?_) (fun K hK => ?_)
             ·skip
              refine goes_ Try.func48 (by kernel_rfl) rfl #[.int .i64 (wrap64 (rd l0 0)), .slice A46 ((l0.take ((wrap64 (3 + (wrap64 ((wrap64 (rd l0 1)) + (wrap64 (256 * (wrap64 (rd l0 2)))))))) : Int).toNat).drop 3).length (c0 - 3)] (by rfl) rfl rfl (by (try simp only [List.map_toArray, List.map_cons, List.map_nil]); first | done | (rw [show ((l0.take ((wrap64 (3 + (wrap64 ((wrap64 (rd l0 1)) + (wrap64 (256 * (wrap64 (rd l0 2)))))))) : Int).toNat).drop 3).length = ((wrap64 (3 + (wrap64 ((wrap64 (rd l0 1)) + (wrap64 (256 * (wrap64 (rd l0 2)))))))).toNat - 3) from (by rw [List.length_drop, List.length_take]; have h_ : ((wrap64 (3 + (wrap64 ((wrap64 (rd l0 1)) + (wrap64 (256 * (wrap64 (rd l0 2)))))))) : Int) ≤ (l0.length : Int) := of_decide_eq_true (by first | (with_reducible assumption) | assumption); omega)] <;> rfl) | rfl | (simp only [List.length_drop, List.length_take]; rfl)) ?_
              with_reducible refine (waggonerref16_may.calls (wrap64 (rd l0 0)) _ _ ((l0.take ((wrap64 (3 + (wrap64 ((wrap64 (rd l0 1)) + (wrap64 (256 * (wrap64 (rd l0 2)))))))) : Int).toNat).drop 3) t381 t382 t383 t384 t387 t388 t389 _ ?side1 ?side2 A14.out).mono ?_
              (case side1 => exact Cz.cb HR380)
              (case side2 => exact HC380.out)
              rintro e w47 ⟨v385, rfl, ho0, hb⟩
              refine ⟨_, rfl, ?_⟩
              have HO386 := Aside0.mk (Kd.R_lower ho0 (below_size (Cz.bl (w := w))))
              replace BK376 := Cz.bk BK376 hb
              replace HB := Cz.bs (w := w) hb
              (try clear hb)
              (try clear hb2)
              (try clear hk)
              (try clear hi)
              (try clear ho0)
              refine hK.out _ _ (((HB.out.cell (World.block_lt_of_cell? w _ hw379_0)).trans hw379_0)) (fun hHeld => ?_)
              clear hK K
              refine norm_ (a' := ?_) ?_ ?_
              rotate_left
              ·show Act.put _ (some 37) _ = _
               simp only [Act.put, Kx.sb, Kx.sz, Kx.ss, i64_w, i32_w]
               rfl
              refine Cz.qO (N := some 6) 9 HT_ (fun K hK => ?_)
              refine box_step ?hg (N := 6) ?hd (cs := #[.int .i64 0, .int .i64 0, .int .i64 0, .slice none 0 0, .int .i64 0, .int .i64 0, .int .i64 0]) (t := 38) ?hr ?_; (case hd => rfl); (case hg => rfl); (case hr => first | (go_simp; done) | (go_simp; rfl))
              intro gb390 hg w48 hbox hb
              have BK390 := Aside0.mk (hbox)
              have GW390 := Aside0.mk ((Cz.gs hg : w.heap.size ≤ gb390))
              have GE390 := GW390
              have NB376_390 := Aside0.mk ((Cz.nl BK376 hg : gb376 ≠ gb390))
              have NB390_376 := Aside0.mk ((Cz.nr BK376 hg : gb390 ≠ gb376))
              replace HO386 := Cz.rb HO386 hb
              replace BK376 := Cz.bk BK376 hb
              replace HB := Cz.bs (w := w) hb
              clear hb hbox hg
              refine hK.out _ _ (((HB.out.cell (World.block_lt_of_cell? w _ hw379_0)).trans hw379_0)) (fun hHeld => ?_)
              clear hK K
              refine norm_ (a' := ?_) ?_ ?_
              rotate_left
              ·show Act.put _ (some 6) _ = _
               simp only [Act.put, Kx.sb, Kx.sz, Kx.ss, i64_w, i32_w]
               rfl
              exact norm_ (by simp only [putAll, Act.put, Kx.sb, Kx.sz, Kx.ss]) (hCont (v385, gb390) _ ⟨hHeld, (by (with_reducible repeat (first | apply Kd.R_alloc | apply Kd.R_drewN | apply Kd.R_drew)); exact HO386.out), (by (with_reducible repeat (first | refine blk_drewN ?_ _ | refine blk_drew ?_ | refine blk_alloc ?_ _)); exact BK376.out), (by (with_reducible repeat (first | refine blk_drewN ?_ _ | refine blk_drew ?_ | refine blk_alloc ?_ _)); exact BK390.out), GW390.out, GE390.out, NB376_390.out, NB390_376.out, (Cz.bl (w := w))⟩)
             ·skip
              refine box_step ?hg (N := 6) ?hd (cs := #[.int .i64 0, .int .i64 0, .int .i64 0, .slice none 0 0, .int .i64 0, .int .i64 0, .int .i64 0]) (t := 38) ?hr ?_; (case hd => rfl); (case hg => rfl); (case hr => first | (go_simp; done) | (go_simp; rfl))
              intro gb390 hg w47 hbox hb
              have BK390 := Aside0.mk (hbox)
              have GW390 := Aside0.mk ((Cz.gs hg : w.heap.size ≤ gb390))
              have GE390 := GW390
              have NB376_390 := Aside0.mk ((Cz.nl BK376 hg : gb376 ≠ gb390))
              have NB390_376 := Aside0.mk ((Cz.nr BK376 hg : gb390 ≠ gb376))
              replace BK376 := Cz.bk BK376 hb
              replace HB := Cz.bs (w := w) hb
              clear hb hbox hg
              refine hK.out _ _ (((HB.out.cell (World.block_lt_of_cell? w _ hw379_0)).trans hw379_0)) (fun hHeld => ?_)
              clear hK K
              refine norm_ (a' := ?_) ?_ ?_
              rotate_left
              ·show Act.put _ (some 6) _ = _
               simp only [Act.put, Kx.sb, Kx.sz, Kx.ss, i64_w, i32_w]
               rfl
              refine Cz.qO (N := some 37) 8 HT_ (fun K hK => ?_)
              refine goes_ Try.func48 (by kernel_rfl) rfl #[.int .i64 (wrap64 (rd l0 0)), .slice A46 ((l0.take ((wrap64 (3 + (wrap64 ((wrap64 (rd l0 1)) + (wrap64 (256 * (wrap64 (rd l0 2)))))))) : Int).toNat).drop 3).length (c0 - 3)] (by rfl) rfl rfl (by (try simp only [List.map_toArray, List.map_cons, List.map_nil]); first | done | (rw [show ((l0.take ((wrap64 (3 + (wrap64 ((wrap64 (rd l0 1)) + (wrap64 (256 * (wrap64 (rd l0 2)))))))) : Int).toNat).drop 3).length = ((wrap64 (3 + (wrap64 ((wrap64 (rd l0 1)) + (wrap64 (256 * (wrap64 (rd l0 2)))))))).toNat - 3) from (by rw [List.length_drop, List.length_take]; have h_ : ((wrap64 (3 + (wrap64 ((wrap64 (rd l0 1)) + (wrap64 (256 * (wrap64 (rd l0 2)))))))) : Int) ≤ (l0.length : Int) := of_decide_eq_true (by first | (with_reducible assumption) | assumption); omega)] <;> rfl) | rfl | (simp only [List.length_drop, List.length_take]; rfl)) ?_
              with_reducible refine (waggonerref16_may.calls (wrap64 (rd l0 0)) _ _ ((l0.take ((wrap64 (3 + (wrap64 ((wrap64 (rd l0 1)) + (wrap64 (256 * (wrap64 (rd l0 2)))))))) : Int).toNat).drop 3) t381 t382 t383 t384 t387 t388 t389 _ ?side1 ?side2 A14.out).mono ?_
              (case side1 => exact Cz.cb HR380)
              (case side2 => exact HC380.out)
              rintro e w48 ⟨v385, rfl, ho0, hb⟩
              refine ⟨_, rfl, ?_⟩
              have HO386 := Aside0.mk (Kd.R_lower ho0 (below_size (Cz.bl (w := w))))
              replace BK376 := Cz.bk BK376 hb
              replace BK390 := Cz.bk BK390 hb
              replace HB := Cz.bs (w := w) hb
              (try clear hb)
              (try clear hb2)
              (try clear hk)
              (try clear hi)
              (try clear ho0)
              refine hK.out _ _ (((HB.out.cell (World.block_lt_of_cell? w _ hw379_0)).trans hw379_0)) (fun hHeld => ?_)
              clear hK K
              refine norm_ (a' := ?_) ?_ ?_
              rotate_left
              ·show Act.put _ (some 37) _ = _
               simp only [Act.put, Kx.sb, Kx.sz, Kx.ss, i64_w, i32_w]
               rfl
              exact norm_ (by simp only [putAll, Act.put, Kx.sb, Kx.sz, Kx.ss]) (hCont (v385, gb390) _ ⟨hHeld, (by (with_reducible repeat (first | apply Kd.R_alloc | apply Kd.R_drewN | apply Kd.R_drew)); exact HO386.out), (by (with_reducible repeat (first | refine blk_drewN ?_ _ | refine blk_drew ?_ | refine blk_alloc ?_ _)); exact BK376.out), (by (with_reducible repeat (first | refine blk_drewN ?_ _ | refine blk_drew ?_ | refine blk_alloc ?_ _)); exact BK390.out), GW390.out, GE390.out, NB376_390.out, NB390_376.out, (Cz.bl (w := w))⟩)
            rintro ⟨v385, gb390⟩ w49 ⟨hS_, h0_, h1_, h2_, h3_, h4_, h5_, h6_, h7_⟩
            have n0_ : Aside0 (Kd.R (Kd.int .u8) 5 w49 w.heap.size (fun _ => True) v385 t384) := ⟨h0_⟩
            have n1_ : Aside0 (w49.heap[gb376]? = some (.cells #[.int .i64 0, .int .i64 0, .int .i64 0, .slice none 0 0, .int .i64 0, .int .i64 0, .int .i64 0] 38 (0, 0))) := ⟨h1_⟩
            have n2_ : Aside0 (w49.heap[gb390]? = some (.cells #[.int .i64 0, .int .i64 0, .int .i64 0, .slice none 0 0, .int .i64 0, .int .i64 0, .int .i64 0] 38 (0, 0))) := ⟨h2_⟩
            have n3_ : Aside0 (w.heap.size ≤ gb390) := ⟨h3_⟩
            have n4_ : Aside0 (w.heap.size ≤ gb390) := ⟨h4_⟩
            have n5_ : Aside0 (gb376 ≠ gb390) := ⟨h5_⟩
            have n6_ : Aside0 (gb390 ≠ gb376) := ⟨h6_⟩
            have n7_ : Aside0 (Below w.heap.size w w49) := ⟨h7_⟩
            clear BK376
            clear HB
            clear h0_ h1_ h2_ h3_ h4_ h5_ h6_ h7_
            have HO386 := n0_
            have BK376 := n1_
            have BK390 := n2_
            have GW390 := n3_
            have GE390 := n4_
            have NB376_390 := n5_
            have NB390_376 := n6_
            have HB := n7_
            clear n0_ n1_ n2_ n3_ n4_ n5_ n6_ n7_
            have hHeld : w49.cell? ad377 = some (.int .u8 (rd l0 0)) := hS_
            obtain ⟨Ao53, co53, eo53⟩ := Kd.R_slice HO386.out
            (first | subst eo53 | (injection eo53 with f1_ f2_ f3_; have f4_ := f1_.symm; have f5_ := f3_.symm; clear f1_ f2_ f3_; subst f4_; subst f5_))
            refine norm_ (a' := ?_) ?_ ?_
            rotate_left
            ·simp only [putAll, Act.put, Kx.sb, Kx.sz, Kx.ss]
             rfl
            refine last_ (i := 10) (N := none) #[true, true, true, true, true, true, true, true, true, true, true] rfl rfl (one_of HT_.out (by kernel_rfl)) (by decide) (fun K hK => ?_)
            have hs50 : w49.cell? ⟨gb390, 0, none⟩ = some (.int .i64 0) := (blk_cell BK390.out 0).trans rfl
            have hfs50 := blk_frozen BK390.out 0
            have hns50_0 := NB376_390.out
            have hms50_0 := NB390_376.out
            have hs51 : w49.cell? ⟨gb390, 1, none⟩ = some (.int .i64 0) := (blk_cell BK390.out 1).trans rfl
            have hfs51 := blk_frozen BK390.out 1
            have hns51_0 := NB376_390.out
            have hms51_0 := NB390_376.out
            have hs52 : w49.cell? ⟨gb390, 2, none⟩ = some (.int .i64 0) := (blk_cell BK390.out 2).trans rfl
            have hfs52 := blk_frozen BK390.out 2
            have hns52_0 := NB376_390.out
            have hms52_0 := NB390_376.out
            have hs54 : w49.cell? ⟨gb390, 3, none⟩ = some (.slice none 0 0) := (blk_cell BK390.out 3).trans rfl
            have hfs54 := blk_frozen BK390.out 3
            have hns54_0 := NB376_390.out
            have hms54_0 := NB390_376.out
            have hs55 : w49.cell? ⟨gb390, 4, none⟩ = some (.int .i64 0) := (blk_cell BK390.out 4).trans rfl
            have hfs55 := blk_frozen BK390.out 4
            have hns55_0 := NB376_390.out
            have hms55_0 := NB390_376.out
            have hs56 : w49.cell? ⟨gb390, 5, none⟩ = some (.int .i64 0) := (blk_cell BK390.out 5).trans rfl
            have hfs56 := blk_frozen BK390.out 5
            have hns56_0 := NB376_390.out
            have hms56_0 := NB390_376.out
            have hs57 : w49.cell? ⟨gb390, 6, none⟩ = some (.int .i64 0) := (blk_cell BK390.out 6).trans rfl
            have hfs57 := blk_frozen BK390.out 6
            have hns57_0 := NB376_390.out
            have hms57_0 := NB390_376.out
            refine skip_ (w1 := ?_) (by rfl) rfl ?_ ?_
            rotate_left
            ·go_simp
             rfl
            refine hK.out _ _ ?_
            clear hK K
            refine done_ (done_of HT_.out (by kernel_rfl)) ?_
            have hnb58 := NB390_376.out
            have hnc58 := NB376_390.out
            obtain ⟨z59_0, z59_1, z59_2, z59_3, z59_4, z59_5, z59_6, y59_0, y59_1, y59_2, y59_3, y59_4, y59_5, y59_6⟩ := Cz.d7 BK390
            try go_wp2_with (first | ((with_reducible refine gate_callee (f := 20) rfl ?_); refine Cz.gL (N := (some 40)) Try.func20 #[.agg #[.int .i64 t381, .int .i64 t382, .int .i64 t383, .slice Ao53 t384.length co53, .int .i64 t387, .int .i64 t388, .int .i64 t389]] ?_; (with_reducible refine (waggonerref16_Write.calls t381 t382 t383 _ _ t384 t387 t388 t389 t391 t394 _ ?side1 ?side2 A15.out).mono ?_); (case side1 => refine (Kd.R_reads' (e := 5) (base := w.heap.size) (ok := fun k_ => True) (n := t384.length) (c := co53) ?_).2.2; exact (by (with_reducible repeat (first | apply Kd.R_alloc | apply Kd.R_drewN | apply Kd.R_drew)); exact (Kd.R_mono (Cz.rf (Cz.rf (Cz.rf (Cz.rf (Cz.rf (Cz.rf (Cz.rf (Kd.R_types HO386.out BK390.out (by decide))))))))) (fun _ h_ => h_.1)))); (case side2 => exact (Kd.R_reads' HO386.out).2.1); rintro e w60 ⟨v392, rfl, ho0, hb⟩; refine ⟨_, rfl, ?_⟩; have HO393 := Aside0.mk (Kd.R_lower (Kd.R_new' ho0 (Kd.R_lt (by (with_reducible repeat (first | apply Kd.R_alloc | apply Kd.R_drewN | apply Kd.R_drew)); exact (Kd.R_mono (Cz.rf (Cz.rf (Cz.rf (Cz.rf (Cz.rf (Cz.rf (Cz.rf (Kd.R_types HO386.out BK390.out (by decide))))))))) (fun _ h_ => h_.1))))) (below_size (Cz.bl (w := w)))); replace HO386 := Aside0.mk (Kd.R_elder' (by (with_reducible repeat (first | apply Kd.R_alloc | apply Kd.R_drewN | apply Kd.R_drew)); exact (Kd.R_mono (Cz.rf (Cz.rf (Cz.rf (Cz.rf (Cz.rf (Cz.rf (Cz.rf (Kd.R_types HO386.out BK390.out (by decide))))))))) (fun _ h_ => h_.1))) (Kd.R_base ho0) hb); replace BK376 := Aside0.mk (blk_below (g := gb376) (o := .cells #[.int .i64 0, .int .i64 0, .int .i64 0, .slice none 0 0, .int .i64 0, .int .i64 0, .int .i64 0] 38 (0, 0)) (by (with_reducible repeat (first | refine blk_drewN ?_ _ | refine blk_drew ?_ | refine blk_alloc ?_ _)); refine blk_far ?_ NB376_390.out _; refine blk_far ?_ NB376_390.out _; refine blk_far ?_ NB376_390.out _; refine blk_far ?_ NB376_390.out _; refine blk_far ?_ NB376_390.out _; refine blk_far ?_ NB376_390.out _; refine blk_far ?_ NB376_390.out _; (with_reducible repeat (first | refine blk_drewN ?_ _ | refine blk_drew ?_ | refine blk_alloc ?_ _)); exact BK376.out) hb); replace BK390 := Aside0.mk (blk_below (g := gb390) (o := .cells #[.int .i64 t381, .int .i64 t382, .int .i64 t383, .slice Ao53 t384.length co53, .int .i64 t387, .int .i64 t388, .int .i64 t389] 38 (0, 0)) (by (with_reducible repeat (first | refine blk_drewN ?_ _ | refine blk_drew ?_ | refine blk_alloc ?_ _)); apply Cz.a7; (with_reducible repeat (first | refine blk_drewN ?_ _ | refine blk_drew ?_ | refine blk_alloc ?_ _)); exact BK390.out) hb); replace HB := Cz.bs (w := w) hb; (try clear hb); (try clear hk); (try clear ho0)))
            replace HO386 := Aside0.mk (Kd.R_drew HO386.out)
            replace HO393 := Aside0.mk (Kd.R_drew HO393.out)
            replace BK376 := Aside0.mk (blk_drew BK376.out)
            replace BK390 := Aside0.mk (blk_drew BK390.out)
            replace HB := Aside0.mk (below_drew1 HB.out)
            obtain ⟨i062, hi062, _, hsz62, _⟩ := info_parts info5
            obtain ⟨hcut62, hA62, hC62⟩ := print_take_of (P := Try.prog) (Value.int .u8) 0 27 5 .i64 Try.underlying27 hi062 hsz62 (some ad377) c0 l0 (ji17) (of_decide_eq_true (by first | (with_reducible assumption) | assumption)) (of_decide_eq_true (by first | (with_reducible assumption) | assumption)) HC0.out
            have HR395 := Aside0.mk (Kd.C_of_reads (h1 := fun _ => rfl) (hA62 _ (Kd.reads_of_C HR0.out)))
            have HC395 := Aside0.mk hC62
            clear hA62 hC62 hi062 hsz62
            refine start_ (n := 12) (S := fun w' => (convert 27 9 (v392)).run Try.prog w' = .ok (.string (strOfNums t391)) w' ∧ (convert 27 9 (.slice (some ad377) (ji17).toNat c0)).run Try.prog w' = .ok (.string (strOfNums (l0.take ((ji17) : Int).toNat))) w') (ds := []) #[false, false, false, false, false, false, false, false, false, false, false, false] (by kernel_rfl) rfl rfl ⟨(own_string (P := Try.prog) Try.underlying27 Try.underlying5 Try.underlying9 (Kd.own_of_R HO393.out)), (by have h_ := (Kd.C_string (P := Try.prog) (A := (some ad377)) (c := c0) Try.underlying27 Try.underlying5 Try.underlying9 (Kd.C_below HR395.out HB.out)); rw [show (l0.take ((ji17) : Int).toNat).length = (ji17).toNat from (by rw [List.length_take]; have h_ : ((ji17) : Int) ≤ (l0.length : Int) := of_decide_eq_true (by first | (with_reducible assumption) | assumption); omega)] at h_; exact h_)⟩ (fun hHeld => ?_); refine with_tabW waggonerref16_Read_p.tab8 waggonerref16_Read_p.bits8 (fun HT_ HW_ => ?_)
            generalize w60.drew = w61 at HO386 HO393 BK376 BK390 HB HR395 hHeld ⊢
            refine Cz.qP 0 43 HT_ ?_
            refine Cz.qP 1 44 HT_ ?_
            refine Cz.qP 2 45 HT_ ?_
            refine Cz.qP 3 46 HT_ ?_
            refine Cz.qP 5 48 HT_ ?_
            refine Cz.qP 6 49 HT_ ?_
            refine Cz.qP 7 50 HT_ ?_
            refine Cz.qP 8 51 HT_ ?_
            refine Cz.qT 4 47 HT_ HW_ hHeld ?_
            refine Cz.qT 9 52 HT_ HW_ hHeld ?_
            refine Cz.qP 10 53 HT_ ?_
            refine Cz.qP 11 54 HT_ ?_
            refine done_ (done_of HT_.out (by kernel_rfl)) ?_
            obtain ⟨z63_0, z63_1, z63_2, z63_3, z63_4, z63_5, z63_6, y63_0, y63_1, y63_2, y63_3, y63_4, y63_5, y63_6⟩ := Cz.d7 BK376
            try go_wp2
            refine bodyPost_ret (results_ctt rfl _ _ gb376 38 #[.int .i64 0, .int .i64 0, .int .i64 0, .slice none 0 0, .int .i64 0, .int .i64 0, .int .i64 0] (0, 0) _ rfl (by (with_reducible repeat (first | refine blk_drewN ?_ _ | refine blk_drew ?_ | refine blk_alloc ?_ _)); apply Cz.a7; (with_reducible repeat (first | refine blk_drewN ?_ _ | refine blk_drew ?_ | refine blk_alloc ?_ _)); exact BK376.out) Try.underlying38 rfl (by kernel_rfl)) rfl ?_
            exact ⟨_, by first | rfl | (simp [errW_none, errW_some] <;> rfl) | (simp only [← hji17]; first | rfl | (simp [errW_none, errW_some] <;> rfl)) | (simp [*, errW_none, errW_some] <;> rfl), by first | exact Kd.R_nil _ _ _ _ _ | exact Kd.N_nil _ _ _ _ _ | exact Kd.V_nil _ _ _ _ _ | exact Kd.Q_nil _ _ _ _ _ | exact Kd.S_nil _ _ _ _ _, Cz.bl (w := w)⟩
          ·rw [if_neg c19] at H
           exact absurd H (by simp)
         ·rw [if_neg c18] at H
          exact absurd H (by simp)
        ·rw [if_neg c16] at H
         have c16b0 : (t394 == 0) = false := beq_eq_false_iff_ne.mpr c16
         have c16b1 : (t394 != 0) = true := bne_iff_ne.mpr c16
         simp only [Option.some.injEq, Prod.mk.injEq] at H
         obtain ⟨rfl, rfl, rfl, rfl, rfl, rfl, rfl, rfl, rfl⟩ := H
         go_enter Try.func22, Try.ntmps22
         try go_wp2_with (first | ((with_reducible refine gate_dst (N := 2) rfl ?_); refine Cz.bx (N := 2) #[.int .i64 0, .int .i64 0, .int .i64 0, .slice none 0 0, .int .i64 0, .int .i64 0, .int .i64 0] 38 ?_; intro gb376 hg w64 hbox hb; have BK376 := Aside0.mk (hbox); have GW376 := Aside0.mk ((Cz.gs hg : w.heap.size ≤ gb376)); have GE376 := GW376; replace HB := Cz.bs (w := w) hb; clear hb hbox hg))
         replace BK376 := Aside0.mk (blk_drew BK376.out)
         replace HB := Aside0.mk (below_drew1 HB.out)
         have p377 : 0 ≤ (1 : Int) := (by omega)
         have q377 : 1 < (l0.length : Int) := of_decide_eq_true (by first | (with_reducible assumption) | assumption)
         obtain ⟨ad377, e377, hx377_0⟩ := Kd.at_int HR0.out 1 p377 q377
         have hw377_0 := hx377_0
         (try rw [show ((1 : Int)).toNat = 1 from rfl] at hw377_0)
         (try rw [show 1 * 1 = 1 from rfl] at hw377_0)
         (try simp only [Nat.reduceMul, Nat.reduceEqDiff, Go.Addr.add, ↓reduceIte] at hw377_0)
         cases e377
         (try simp only [show (1 : Int).toNat = 1 from rfl, Nat.reduceMul, Nat.reduceEqDiff, Go.Addr.add, ↓reduceIte] at hx377_0)
         have qi377 : (1 < l0.length) = True := eq_true (by omega)
         (try rw [show ((1 : Int)).toNat = 1 from rfl] at hx377_0)
         replace hx377_0 := (HB.out.cell (World.block_lt_of_cell? w _ hx377_0)).trans hx377_0
         replace p377 := eq_true p377
         replace q377 := eq_true q377
         have p378 : 0 ≤ (2 : Int) := (by omega)
         have q378 : 2 < (l0.length : Int) := of_decide_eq_true (by first | (with_reducible assumption) | assumption)
         obtain ⟨ad378, e378, hx378_0⟩ := Kd.at_int HR0.out 2 p378 q378
         have hw378_0 := hx378_0
         (try rw [show ((2 : Int)).toNat = 2 from rfl] at hw378_0)
         (try rw [show 2 * 1 = 2 from rfl] at hw378_0)
         (try simp only [Nat.reduceMul, Nat.reduceEqDiff, Go.Addr.add, ↓reduceIte] at hw378_0)
         obtain rfl : ad377 = ad378 := (by injection e378)
         (try simp only [show (2 : Int).toNat = 2 from rfl, Nat.reduceMul, Nat.reduceEqDiff, Go.Addr.add, ↓reduceIte] at hx378_0)
         have qi378 : (2 < l0.length) = True := eq_true (by omega)
         (try rw [show ((2 : Int)).toNat = 2 from rfl] at hx378_0)
         replace hx378_0 := (HB.out.cell (World.block_lt_of_cell? w _ hx378_0)).trans hx378_0
         replace p378 := eq_true p378
         replace q378 := eq_true q378
         refine start_ (n := 11) (S := fun w' => w'.cell? ⟨ad377.block, ad377.off + 1, none⟩ = some (.int .u8 (rd l0 1)) ∧ w'.cell? ⟨ad377.block, ad377.off + 2, none⟩ = some (.int .u8 (rd l0 2))) (ds := []) #[false, false, false, false, false, false, false, false, false, false, false] (by kernel_rfl) rfl rfl ⟨((HB.out.cell (World.block_lt_of_cell? w _ hw377_0)).trans hw377_0), ((HB.out.cell (World.block_lt_of_cell? w _ hw378_0)).trans hw378_0)⟩ (fun hHeld => ?_); refine with_tabW waggonerref16_Read_p.tab3 waggonerref16_Read_p.bits3 (fun HT_ HW_ => ?_)
         generalize w64.drew = w65 at BK376 HB hx377_0 hx378_0 hHeld ⊢
         refine Cz.qP 0 13 HT_ ?_
         refine Cz.qP 1 14 HT_ ?_
         refine Cz.qP 4 17 HT_ ?_
         refine Cz.qP 5 18 HT_ ?_
         refine Cz.qT 2 15 HT_ HW_ hHeld ?_
         refine Cz.qP 3 16 HT_ ?_
         refine Cz.qT 6 19 HT_ HW_ hHeld ?_
         refine Cz.qP 7 20 HT_ ?_
         refine Cz.qP 8 21 HT_ ?_
         refine Cz.qP 9 22 HT_ ?_
         refine Cz.qP 10 5 HT_ ?_
         refine done_ (done_of HT_.out (by kernel_rfl)) ?_
         try go_wp2
         replace BK376 := Aside0.mk (blk_drew BK376.out)
         replace HB := Aside0.mk (below_drew1 HB.out)
         have p379 : 0 ≤ (0 : Int) := (by omega)
         have q379 : 0 < (l0.length : Int) := of_decide_eq_true (by first | (with_reducible assumption) | assumption)
         obtain ⟨ad379, e379, hx379_0⟩ := Kd.at_int HR0.out 0 p379 q379
         have hw379_0 := hx379_0
         (try rw [show ((0 : Int)).toNat = 0 from rfl] at hw379_0)
         (try rw [show 0 * 1 = 0 from rfl] at hw379_0)
         (try rw [Addr.add_zero'] at hw379_0)
         obtain rfl : ad377 = ad379 := (by injection e379)
         have qi379 : (0 < l0.length) = True := eq_true (by omega)
         (try rw [show ((0 : Int)).toNat = 0 from rfl] at hx379_0)
         (try rw [Addr.add_zero'] at hx379_0)
         replace hx379_0 := (HB.out.cell (World.block_lt_of_cell? w _ hx379_0)).trans hx379_0
         replace p379 := eq_true p379
         replace q379 := eq_true q379
         obtain ⟨i067, hi067, _, hsz67, _⟩ := info_parts info5
         obtain ⟨A67, hcut67, hA67, hC67⟩ := print_mid_of (P := Try.prog) (Value.int .u8) 0 27 5 .i64 .i64 Try.underlying27 hi067 hsz67 (some ad377) c0 l0 3 (wrap64 (3 + (wrap64 ((wrap64 (rd l0 1)) + (wrap64 (256 * (wrap64 (rd l0 2)))))))) (by omega) (by first | omega | exact of_decide_eq_true (by first | (with_reducible assumption) | assumption)) (of_decide_eq_true (by first | (with_reducible assumption) | assumption)) HC0.out
         have HR380 := Aside0.mk (Kd.C_of_reads (h1 := fun _ => rfl) (hA67 _ (Kd.reads_of_C HR0.out)))
         have HC380 := Aside0.mk hC67
         clear hA67 hC67 hi067 hsz67
         refine start_ (n := 11) (S := fun w' => w'.cell? ad377 = some (.int .u8 (rd l0 0))) (ds := [10]) #[false, false, false, false, false, false, false, false, false, false, false] (by kernel_rfl) rfl rfl (((HB.out.cell (World.block_lt_of_cell? w _ hw379_0)).trans hw379_0)) (fun hHeld => ?_); refine with_tabW waggonerref16_Read_p.tab6 waggonerref16_Read_p.bits6 (fun HT_ HW_ => ?_)
         generalize w65.drew = w66 at BK376 HB HR380 hx379_0 hHeld ⊢
         refine Cz.qP 0 29 HT_ ?_
         refine Cz.qP 1 30 HT_ ?_
         refine Cz.qP 4 33 HT_ ?_
         refine Cz.qP 5 34 HT_ ?_
         refine Cz.qP 6 35 HT_ ?_
         refine Cz.qP 7 36 HT_ ?_
         refine Cz.qT 2 31 HT_ HW_ hHeld ?_
         refine Cz.qP 3 32 HT_ ?_
         refine join_ (σ := Value × Nat) 1 #[true, true, true, true, true, true, true, true, true, true, false] (fun s_ => [(37, .agg #[.int .i64 t381, .int .i64 t382, .int .i64 t383, s_.1, .int .i64 t387, .int .i64 t388, .int .i64 t389]), (6, .pointer (some ⟨s_.2, 0, none⟩))]) (fun s_ w' => (w'.cell? ad377 = some (.int .u8 (rd l0 0))) ∧ (Kd.R (Kd.int .u8) 5 w' w.heap.size (fun _ => True) s_.1 t384) ∧ (w'.heap[gb376]? = some (.cells #[.int .i64 0, .int .i64 0, .int .i64 0, .slice none 0 0, .int .i64 0, .int .i64 0, .int .i64 0] 38 (0, 0))) ∧ (w'.heap[s_.2]? = some (.cells #[.int .i64 0, .int .i64 0, .int .i64 0, .slice none 0 0, .int .i64 0, .int .i64 0, .int .i64 0] 38 (0, 0))) ∧ (w.heap.size ≤ s_.2) ∧ (w.heap.size ≤ s_.2) ∧ (gb376 ≠ s_.2) ∧ (s_.2 ≠ gb376) ∧ (Below w.heap.size w w')) ?_ ?_
         rotate_left
         ·intro hCont
          refine two_ (i := 8) (j := 9) (Ni := some 37) (Nj := some 6) #[true, true, true, true, true, true, true, true, true, false, false] #[true, true, true, true, true, true, true, true, false, true, false] rfl rfl rfl rfl (two_of HT_.out (by kernel_rfl)) (by decide) (by decide) (fun K hK => ?_) (fun K hK => ?_)
          ·skip
           refine goes_ Try.func48 (by kernel_rfl) rfl #[.int .i64 (wrap64 (rd l0 0)), .slice A67 ((l0.take ((wrap64 (3 + (wrap64 ((wrap64 (rd l0 1)) + (wrap64 (256 * (wrap64 (rd l0 2)))))))) : Int).toNat).drop 3).length (c0 - 3)] (by rfl) rfl rfl (by (try simp only [List.map_toArray, List.map_cons, List.map_nil]); first | done | (rw [show ((l0.take ((wrap64 (3 + (wrap64 ((wrap64 (rd l0 1)) + (wrap64 (256 * (wrap64 (rd l0 2)))))))) : Int).toNat).drop 3).length = ((wrap64 (3 + (wrap64 ((wrap64 (rd l0 1)) + (wrap64 (256 * (wrap64 (rd l0 2)))))))).toNat - 3) from (by rw [List.length_drop, List.length_take]; have h_ : ((wrap64 (3 + (wrap64 ((wrap64 (rd l0 1)) + (wrap64 (256 * (wrap64 (rd l0 2)))))))) : Int) ≤ (l0.length : Int) := of_decide_eq_true (by first | (with_reducible assumption) | assumption); omega)] <;> rfl) | rfl | (simp only [List.length_drop, List.length_take]; rfl)) ?_
           with_reducible refine (waggonerref16_may.calls (wrap64 (rd l0 0)) _ _ ((l0.take ((wrap64 (3 + (wrap64 ((wrap64 (rd l0 1)) + (wrap64 (256 * (wrap64 (rd l0 2)))))))) : Int).toNat).drop 3) t381 t382 t383 t384 t387 t388 t389 _ ?side1 ?side2 A14.out).mono ?_
           (case side1 => exact Cz.cb HR380)
           (case side2 => exact HC380.out)
           rintro e w68 ⟨v385, rfl, ho0, hb⟩
           refine ⟨_, rfl, ?_⟩
           have HO386 := Aside0.mk (Kd.R_lower ho0 (below_size (Cz.bl (w := w))))
           replace BK376 := Cz.bk BK376 hb
           replace HB := Cz.bs (w := w) hb
           (try clear hb)
           (try clear hb2)
           (try clear hk)
           (try clear hi)
           (try clear ho0)
           refine hK.out _ _ (((HB.out.cell (World.block_lt_of_cell? w _ hw379_0)).trans hw379_0)) (fun hHeld => ?_)
           clear hK K
           refine norm_ (a' := ?_) ?_ ?_
           rotate_left
           ·show Act.put _ (some 37) _ = _
            simp only [Act.put, Kx.sb, Kx.sz, Kx.ss, i64_w, i32_w]
            rfl
           refine Cz.qO (N := some 6) 9 HT_ (fun K hK => ?_)
           refine box_step ?hg (N := 6) ?hd (cs := #[.int .i64 0, .int .i64 0, .int .i64 0, .slice none 0 0, .int .i64 0, .int .i64 0, .int .i64 0]) (t := 38) ?hr ?_; (case hd => rfl); (case hg => rfl); (case hr => first | (go_simp; done) | (go_simp; rfl))
           intro gb390 hg w69 hbox hb
           have BK390 := Aside0.mk (hbox)
           have GW390 := Aside0.mk ((Cz.gs hg : w.heap.size ≤ gb390))
           have GE390 := GW390
           have NB376_390 := Aside0.mk ((Cz.nl BK376 hg : gb376 ≠ gb390))
           have NB390_376 := Aside0.mk ((Cz.nr BK376 hg : gb390 ≠ gb376))
           replace HO386 := Cz.rb HO386 hb
           replace BK376 := Cz.bk BK376 hb
           replace HB := Cz.bs (w := w) hb
           clear hb hbox hg
           refine hK.out _ _ (((HB.out.cell (World.block_lt_of_cell? w _ hw379_0)).trans hw379_0)) (fun hHeld => ?_)
           clear hK K
           refine norm_ (a' := ?_) ?_ ?_
           rotate_left
           ·show Act.put _ (some 6) _ = _
            simp only [Act.put, Kx.sb, Kx.sz, Kx.ss, i64_w, i32_w]
            rfl
           exact norm_ (by simp only [putAll, Act.put, Kx.sb, Kx.sz, Kx.ss]) (hCont (v385, gb390) _ ⟨hHeld, (by (with_reducible repeat (first | apply Kd.R_alloc | apply Kd.R_drewN | apply Kd.R_drew)); exact HO386.out), (by (with_reducible repeat (first | refine blk_drewN ?_ _ | refine blk_drew ?_ | refine blk_alloc ?_ _)); exact BK376.out), (by (with_reducible repeat (first | refine blk_drewN ?_ _ | refine blk_drew ?_ | refine blk_alloc ?_ _)); exact BK390.out), GW390.out, GE390.out, NB376_390.out, NB390_376.out, (Cz.bl (w := w))⟩)
          ·skip
           refine box_step ?hg (N := 6) ?hd (cs := #[.int .i64 0, .int .i64 0, .int .i64 0, .slice none 0 0, .int .i64 0, .int .i64 0, .int .i64 0]) (t := 38) ?hr ?_; (case hd => rfl); (case hg => rfl); (case hr => first | (go_simp; done) | (go_simp; rfl))
           intro gb390 hg w68 hbox hb
           have BK390 := Aside0.mk (hbox)
           have GW390 := Aside0.mk ((Cz.gs hg : w.heap.size ≤ gb390))
           have GE390 := GW390
           have NB376_390 := Aside0.mk ((Cz.nl BK376 hg : gb376 ≠ gb390))
           have NB390_376 := Aside0.mk ((Cz.nr BK376 hg : gb390 ≠ gb376))
           replace BK376 := Cz.bk BK376 hb
           replace HB := Cz.bs (w := w) hb
           clear hb hbox hg
           refine hK.out _ _ (((HB.out.cell (World.block_lt_of_cell? w _ hw379_0)).trans hw379_0)) (fun hHeld => ?_)
           clear hK K
           refine norm_ (a' := ?_) ?_ ?_
           rotate_left
           ·show Act.put _ (some 6) _ = _
            simp only [Act.put, Kx.sb, Kx.sz, Kx.ss, i64_w, i32_w]
            rfl
           refine Cz.qO (N := some 37) 8 HT_ (fun K hK => ?_)
           refine goes_ Try.func48 (by kernel_rfl) rfl #[.int .i64 (wrap64 (rd l0 0)), .slice A67 ((l0.take ((wrap64 (3 + (wrap64 ((wrap64 (rd l0 1)) + (wrap64 (256 * (wrap64 (rd l0 2)))))))) : Int).toNat).drop 3).length (c0 - 3)] (by rfl) rfl rfl (by (try simp only [List.map_toArray, List.map_cons, List.map_nil]); first | done | (rw [show ((l0.take ((wrap64 (3 + (wrap64 ((wrap64 (rd l0 1)) + (wrap64 (256 * (wrap64 (rd l0 2)))))))) : Int).toNat).drop 3).length = ((wrap64 (3 + (wrap64 ((wrap64 (rd l0 1)) + (wrap64 (256 * (wrap64 (rd l0 2)))))))).toNat - 3) from (by rw [List.length_drop, List.length_take]; have h_ : ((wrap64 (3 + (wrap64 ((wrap64 (rd l0 1)) + (wrap64 (256 * (wrap64 (rd l0 2)))))))) : Int) ≤ (l0.length : Int) := of_decide_eq_true (by first | (with_reducible assumption) | assumption); omega)] <;> rfl) | rfl | (simp only [List.length_drop, List.length_take]; rfl)) ?_
           with_reducible refine (waggonerref16_may.calls (wrap64 (rd l0 0)) _ _ ((l0.take ((wrap64 (3 + (wrap64 ((wrap64 (rd l0 1)) + (wrap64 (256 * (wrap64 (rd l0 2)))))))) : Int).toNat).drop 3) t381 t382 t383 t384 t387 t388 t389 _ ?side1 ?side2 A14.out).mono ?_
           (case side1 => exact Cz.cb HR380)
           (case side2 => exact HC380.out)
           rintro e w69 ⟨v385, rfl, ho0, hb⟩
           refine ⟨_, rfl, ?_⟩
           have HO386 := Aside0.mk (Kd.R_lower ho0 (below_size (Cz.bl (w := w))))
           replace BK376 := Cz.bk BK376 hb
           replace BK390 := Cz.bk BK390 hb
           replace HB := Cz.bs (w := w) hb
           (try clear hb)
           (try clear hb2)
           (try clear hk)
           (try clear hi)
           (try clear ho0)
           refine hK.out _ _ (((HB.out.cell (World.block_lt_of_cell? w _ hw379_0)).trans hw379_0)) (fun hHeld => ?_)
           clear hK K
           refine norm_ (a' := ?_) ?_ ?_
           rotate_left
           ·show Act.put _ (some 37) _ = _
            simp only [Act.put, Kx.sb, Kx.sz, Kx.ss, i64_w, i32_w]
            rfl
           exact norm_ (by simp only [putAll, Act.put, Kx.sb, Kx.sz, Kx.ss]) (hCont (v385, gb390) _ ⟨hHeld, (by (with_reducible repeat (first | apply Kd.R_alloc | apply Kd.R_drewN | apply Kd.R_drew)); exact HO386.out), (by (with_reducible repeat (first | refine blk_drewN ?_ _ | refine blk_drew ?_ | refine blk_alloc ?_ _)); exact BK376.out), (by (with_reducible repeat (first | refine blk_drewN ?_ _ | refine blk_drew ?_ | refine blk_alloc ?_ _)); exact BK390.out), GW390.out, GE390.out, NB376_390.out, NB390_376.out, (Cz.bl (w := w))⟩)
         rintro ⟨v385, gb390⟩ w70 ⟨hS_, h0_, h1_, h2_, h3_, h4_, h5_, h6_, h7_⟩
         have n0_ : Aside0 (Kd.R (Kd.int .u8) 5 w70 w.heap.size (fun _ => True) v385 t384) := ⟨h0_⟩
         have n1_ : Aside0 (w70.heap[gb376]? = some (.cells #[.int .i64 0, .int .i64 0, .int .i64 0, .slice none 0 0, .int .i64 0, .int .i64 0, .int .i64 0] 38 (0, 0))) := ⟨h1_⟩
         have n2_ : Aside0 (w70.heap[gb390]? = some (.cells #[.int .i64 0, .int .i64 0, .int .i64 0, .slice none 0 0, .int .i64 0, .int .i64 0, .int .i64 0] 38 (0, 0))) := ⟨h2_⟩
         have n3_ : Aside0 (w.heap.size ≤ gb390) := ⟨h3_⟩
         have n4_ : Aside0 (w.heap.size ≤ gb390) := ⟨h4_⟩
         have n5_ : Aside0 (gb376 ≠ gb390) := ⟨h5_⟩
         have n6_ : Aside0 (gb390 ≠ gb376) := ⟨h6_⟩
         have n7_ : Aside0 (Below w.heap.size w w70) := ⟨h7_⟩
         clear BK376
         clear HB
         clear h0_ h1_ h2_ h3_ h4_ h5_ h6_ h7_
         have HO386 := n0_
         have BK376 := n1_
         have BK390 := n2_
         have GW390 := n3_
         have GE390 := n4_
         have NB376_390 := n5_
         have NB390_376 := n6_
         have HB := n7_
         clear n0_ n1_ n2_ n3_ n4_ n5_ n6_ n7_
         have hHeld : w70.cell? ad377 = some (.int .u8 (rd l0 0)) := hS_
         obtain ⟨Ao74, co74, eo74⟩ := Kd.R_slice HO386.out
         (first | subst eo74 | (injection eo74 with f1_ f2_ f3_; have f4_ := f1_.symm; have f5_ := f3_.symm; clear f1_ f2_ f3_; subst f4_; subst f5_))
         refine norm_ (a' := ?_) ?_ ?_
         rotate_left
         ·simp only [putAll, Act.put, Kx.sb, Kx.sz, Kx.ss]
          rfl
         refine last_ (i := 10) (N := none) #[true, true, true, true, true, true, true, true, true, true, true] rfl rfl (one_of HT_.out (by kernel_rfl)) (by decide) (fun K hK => ?_)
         have hs71 : w70.cell? ⟨gb390, 0, none⟩ = some (.int .i64 0) := (blk_cell BK390.out 0).trans rfl
         have hfs71 := blk_frozen BK390.out 0
         have hns71_0 := NB376_390.out
         have hms71_0 := NB390_376.out
         have hs72 : w70.cell? ⟨gb390, 1, none⟩ = some (.int .i64 0) := (blk_cell BK390.out 1).trans rfl
         have hfs72 := blk_frozen BK390.out 1
         have hns72_0 := NB376_390.out
         have hms72_0 := NB390_376.out
         have hs73 : w70.cell? ⟨gb390, 2, none⟩ = some (.int .i64 0) := (blk_cell BK390.out 2).trans rfl
         have hfs73 := blk_frozen BK390.out 2
         have hns73_0 := NB376_390.out
         have hms73_0 := NB390_376.out
         have hs75 : w70.cell? ⟨gb390, 3, none⟩ = some (.slice none 0 0) := (blk_cell BK390.out 3).trans rfl
         have hfs75 := blk_frozen BK390.out 3
         have hns75_0 := NB376_390.out
         have hms75_0 := NB390_376.out
         have hs76 : w70.cell? ⟨gb390, 4, none⟩ = some (.int .i64 0) := (blk_cell BK390.out 4).trans rfl
         have hfs76 := blk_frozen BK390.out 4
         have hns76_0 := NB376_390.out
         have hms76_0 := NB390_376.out
         have hs77 : w70.cell? ⟨gb390, 5, none⟩ = some (.int .i64 0) := (blk_cell BK390.out 5).trans rfl
         have hfs77 := blk_frozen BK390.out 5
         have hns77_0 := NB376_390.out
         have hms77_0 := NB390_376.out
         have hs78 : w70.cell? ⟨gb390, 6, none⟩ = some (.int .i64 0) := (blk_cell BK390.out 6).trans rfl
         have hfs78 := blk_frozen BK390.out 6
         have hns78_0 := NB376_390.out
         have hms78_0 := NB390_376.out
         refine skip_ (w1 := ?_) (by rfl) rfl ?_ ?_
         rotate_left
         ·go_simp
          rfl
         refine hK.out _ _ ?_
         clear hK K
         refine done_ (done_of HT_.out (by kernel_rfl)) ?_
         have hnb79 := NB390_376.out
         have hnc79 := NB376_390.out
         obtain ⟨z80_0, z80_1, z80_2, z80_3, z80_4, z80_5, z80_6, y80_0, y80_1, y80_2, y80_3, y80_4, y80_5, y80_6⟩ := Cz.d7 BK390
         try go_wp2_with (first | ((with_reducible refine gate_callee (f := 20) rfl ?_); refine Cz.gL (N := (some 40)) Try.func20 #[.agg #[.int .i64 t381, .int .i64 t382, .int .i64 t383, .slice Ao74 t384.length co74, .int .i64 t387, .int .i64 t388, .int .i64 t389]] ?_; (with_reducible refine (waggonerref16_Write.calls t381 t382 t383 _ _ t384 t387 t388 t389 t391 t394 _ ?side1 ?side2 A15.out).mono ?_); (case side1 => refine (Kd.R_reads' (e := 5) (base := w.heap.size) (ok := fun k_ => True) (n := t384.length) (c := co74) ?_).2.2; exact (by (with_reducible repeat (first | apply Kd.R_alloc | apply Kd.R_drewN | apply Kd.R_drew)); exact (Kd.R_mono (Cz.rf (Cz.rf (Cz.rf (Cz.rf (Cz.rf (Cz.rf (Cz.rf (Kd.R_types HO386.out BK390.out (by decide))))))))) (fun _ h_ => h_.1)))); (case side2 => exact (Kd.R_reads' HO386.out).2.1); rintro e w81 ⟨v392, rfl, ho0, hb⟩; refine ⟨_, rfl, ?_⟩; have HO393 := Aside0.mk (Kd.R_lower (Kd.R_new' ho0 (Kd.R_lt (by (with_reducible repeat (first | apply Kd.R_alloc | apply Kd.R_drewN | apply Kd.R_drew)); exact (Kd.R_mono (Cz.rf (Cz.rf (Cz.rf (Cz.rf (Cz.rf (Cz.rf (Cz.rf (Kd.R_types HO386.out BK390.out (by decide))))))))) (fun _ h_ => h_.1))))) (below_size (Cz.bl (w := w)))); replace HO386 := Aside0.mk (Kd.R_elder' (by (with_reducible repeat (first | apply Kd.R_alloc | apply Kd.R_drewN | apply Kd.R_drew)); exact (Kd.R_mono (Cz.rf (Cz.rf (Cz.rf (Cz.rf (Cz.rf (Cz.rf (Cz.rf (Kd.R_types HO386.out BK390.out (by decide))))))))) (fun _ h_ => h_.1))) (Kd.R_base ho0) hb); replace BK376 := Aside0.mk (blk_below (g := gb376) (o := .cells #[.int .i64 0, .int .i64 0, .int .i64 0, .slice none 0 0, .int .i64 0, .int .i64 0, .int .i64 0] 38 (0, 0)) (by (with_reducible repeat (first | refine blk_drewN ?_ _ | refine blk_drew ?_ | refine blk_alloc ?_ _)); refine blk_far ?_ NB376_390.out _; refine blk_far ?_ NB376_390.out _; refine blk_far ?_ NB376_390.out _; refine blk_far ?_ NB376_390.out _; refine blk_far ?_ NB376_390.out _; refine blk_far ?_ NB376_390.out _; refine blk_far ?_ NB376_390.out _; (with_reducible repeat (first | refine blk_drewN ?_ _ | refine blk_drew ?_ | refine blk_alloc ?_ _)); exact BK376.out) hb); replace BK390 := Aside0.mk (blk_below (g := gb390) (o := .cells #[.int .i64 t381, .int .i64 t382, .int .i64 t383, .slice Ao74 t384.length co74, .int .i64 t387, .int .i64 t388, .int .i64 t389] 38 (0, 0)) (by (with_reducible repeat (first | refine blk_drewN ?_ _ | refine blk_drew ?_ | refine blk_alloc ?_ _)); apply Cz.a7; (with_reducible repeat (first | refine blk_drewN ?_ _ | refine blk_drew ?_ | refine blk_alloc ?_ _)); exact BK390.out) hb); replace HB := Cz.bs (w := w) hb; (try clear hb); (try clear hk); (try clear ho0)))
         replace HO386 := Aside0.mk (Kd.R_drew HO386.out)
         replace HO393 := Aside0.mk (Kd.R_drew HO393.out)
         replace BK376 := Aside0.mk (blk_drew BK376.out)
         replace BK390 := Aside0.mk (blk_drew BK390.out)
         replace HB := Aside0.mk (below_drew1 HB.out)
         refine start_ (n := 12) (S := fun w' => True) (ds := []) #[false, false, false, false, false, false, false, false, false, false, false, false] (by kernel_rfl) rfl rfl trivial (fun hHeld => ?_); refine with_tabW waggonerref16_Read_p.tab8 waggonerref16_Read_p.bits8 (fun HT_ HW_ => ?_)
         generalize w81.drew = w82 at HO386 HO393 BK376 BK390 HB hHeld ⊢
         refine Cz.qP 0 43 HT_ ?_
         refine Cz.qP 1 44 HT_ ?_
         refine Cz.qP 2 45 HT_ ?_
         refine Cz.qU 3 46 HT_ ?_
         refine Cz.qU 4 47 HT_ ?_
         refine Cz.qU 5 48 HT_ ?_
         refine Cz.qU 6 49 HT_ ?_
         refine Cz.qU 7 50 HT_ ?_
         refine Cz.qU 8 51 HT_ ?_
         refine Cz.qU 9 52 HT_ ?_
         refine Cz.qU 10 53 HT_ ?_
         refine Cz.qP 11 54 HT_ ?_
         refine done_ (done_of HT_.out (by kernel_rfl)) ?_
         obtain ⟨z83_0, z83_1, z83_2, z83_3, z83_4, z83_5, z83_6, y83_0, y83_1, y83_2, y83_3, y83_4, y83_5, y83_6⟩ := Cz.d7 BK376
         try go_wp2
         refine bodyPost_ret (results_ctt rfl _ _ gb376 38 #[.int .i64 0, .int .i64 0, .int .i64 0, .slice none 0 0, .int .i64 0, .int .i64 0, .int .i64 0] (0, 0) _ rfl (by (with_reducible repeat (first | refine blk_drewN ?_ _ | refine blk_drew ?_ | refine blk_alloc ?_ _)); apply Cz.a7; (with_reducible repeat (first | refine blk_drewN ?_ _ | refine blk_drew ?_ | refine blk_alloc ?_ _)); exact BK376.out) Try.underlying38 rfl (by kernel_rfl)) rfl ?_
         exact ⟨_, Cz.er, by first | exact Kd.R_nil _ _ _ _ _ | exact Kd.N_nil _ _ _ _ _ | exact Kd.V_nil _ _ _ _ _ | exact Kd.Q_nil _ _ _ _ _ | exact Kd.S_nil _ _ _ _ _, Cz.bl (w := w)⟩
       ·rw [if_neg c13] at H
        exact absurd H (by simp)
      ·rw [if_neg c12] at H
       exact absurd H (by simp)
     ·rw [if_neg c11] at H
      exact absurd H (by simp)
   ·rw [if_neg c6] at H
    exact absurd H (by simp)
  ·rw [if_neg c5] at H
   exact absurd H (by simp)
end Go.Proofs.Ytohkmmbmfhficaa.PT
