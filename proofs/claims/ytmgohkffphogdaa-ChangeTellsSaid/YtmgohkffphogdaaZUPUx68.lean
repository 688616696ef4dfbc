/- Words and walks that this claim names, of those that the kit's print and programs of this workplace have printed. -/
import Derived.Test.YtmgohkffphogdaaZUCz
import Derived.Test.YtmgohkffphogdaaZUPUx15
import Derived.Test.YtmgohkffphogdaaZUPUx65
import Derived.Test.YtmgohkffphogdaaZUPUx67
namespace Go.Proofs.Ytmgohkffphogdaa.PU
open Go.Proofs.Ytmgohkffphogdaa Go.RowKit Go.Proofs.YtmgohkffphogdaaW.PrintWords Go.Proofs.YtmgohkffphogdaaW.PrintLast Go.Proofs.YtmgohkffphogdaaW.PrintMore
attribute [local go_sem] max2_int min2_int max_two min_two max_three min_three max_four min_four
set_option linter.unusedVariables false
set_option linter.unusedSimpArgs false
def waggonerref10_Read_p.f (l0 : List Int) : Option (Int × Int × Int × Int × List Int × (List (S39)) × Int) := if (l0.length : Int) < 9 then (some (0, 0, 0, 0, ([] : List Int), ([] : List (S39)), 100)) else (if 9 ≤ (l0.length : Int) then ((waggonerref01_Unpack.f (⟨#[98, 98, 98, 119, 104]⟩ : ByteArray) (l0.take 9)).bind fun bt353 => (if 0 < (bt353.1.length : Int) then (if 1 < (bt353.1.length : Int) then (if 2 < (bt353.1.length : Int) then (if 3 < (bt353.1.length : Int) then (if 4 < (bt353.1.length : Int) then (if ((l0.drop 9).length : Int) < (wrap64 (rd bt353.1 4)) then (some (0, 0, 0, 0, ([] : List Int), ([] : List (S39)), 100)) else (if 0 ≤ (rd bt353.1 4) then (if (rd bt353.1 4) ≤ ((l0.drop 9).length : Int) then (if ([] : List Int).length + ((l0.drop 9).take ((rd bt353.1 4) : Int).toNat).length < 140737488355328 then ((some (([] : List Int) ++ ((l0.drop 9).take ((rd bt353.1 4) : Int).toNat) : List Int)).bind fun y366 => (if (wrap64 (rd bt353.1 0)) = 8 then ((waggonerref07_Read.f ((l0.drop 9).drop ((rd bt353.1 4) : Int).toNat)).bind fun bt371 => (if bt371.2 = 0 then ((waggonerref10_Write.f (wrap64 (rd bt353.1 0)) (wrap64 (rd bt353.1 1)) (wrap64 (rd bt353.1 2)) (wrap64 (rd bt353.1 3)) y366 bt371.1).bind fun bt375 => (if bt375.2 = 0 then (if (strOfNums bt375.1).toList = (strOfNums l0).toList then (some (wrap64 (rd bt353.1 0), wrap64 (rd bt353.1 1), wrap64 (rd bt353.1 2), wrap64 (rd bt353.1 3), y366, bt371.1, 0)) else (some (0, 0, 0, 0, ([] : List Int), ([] : List (S39)), 100))) else (some (0, 0, 0, 0, ([] : List Int), ([] : List (S39)), 100)))) else (some (0, 0, 0, 0, ([] : List Int), ([] : List (S39)), 100)))) else ((waggonerref10_Write.f (wrap64 (rd bt353.1 0)) (wrap64 (rd bt353.1 1)) (wrap64 (rd bt353.1 2)) (wrap64 (rd bt353.1 3)) y366 ([] : List (S39))).bind fun bt379 => (if bt379.2 = 0 then (if (strOfNums bt379.1).toList = (strOfNums l0).toList then (some (wrap64 (rd bt353.1 0), wrap64 (rd bt353.1 1), wrap64 (rd bt353.1 2), wrap64 (rd bt353.1 3), y366, ([] : List (S39)), 0)) else (some (0, 0, 0, 0, ([] : List Int), ([] : List (S39)), 100))) else (some (0, 0, 0, 0, ([] : List Int), ([] : List (S39)), 100)))))) else (none)) else (none)) else (none))) else (none)) else (none)) else (none)) else (none)) else (none))) else (none))
def waggonerref10_Read_p.T4 : Bool × List (List Nat × List Nat) := (true, [([], []), ([0], [0]), ([1], [1]), ([2], [2]), ([], []), ([4], [4]), ([5], [5]), ([6], [6]), ([], []), ([8], [8]), ([9], [9]), ([10], [10]), ([], []), ([12], [12]), ([13], [13]), ([14], [14]), ([3, 7, 11, 15], [3, 7, 11, 15]), ([], []), ([17, 16, 0, 1, 2, 3, 4, 5, 6, 7, 8, 9, 10, 11, 12, 13, 14, 15, 16, 17], [16, 17])])
def waggonerref10_Read_p.B4 : List Nat := [0, 1, 3, 7, 0, 16, 48, 112, 0, 256, 768, 1792, 0, 4096, 12288, 28672, 65535, 0, 262143]
theorem waggonerref10_Read_p.tab4 : rtab .any (opsOf Try.f14 4) = waggonerref10_Read_p.T4 := by kernel_rfl
theorem waggonerref10_Read_p.bits4 : waitsOk waggonerref10_Read_p.T4.2 waggonerref10_Read_p.B4 = true := by kernel_rfl
def waggonerref10_Read_p.T8 : Bool × List (List Nat × List Nat) := (true, [([], []), ([0], [0]), ([], []), ([], []), ([3], [3]), ([4], [4]), ([2, 5], [2, 5]), ([1, 6], [1, 6]), ([0, 1, 2, 3, 4, 5, 6, 7], []), ([8, 7, 7, 0, 1, 2, 3, 4, 5, 6, 7], [7, 8])])
def waggonerref10_Read_p.B8 : List Nat := [0, 1, 0, 0, 8, 24, 60, 127, 255, 511]
theorem waggonerref10_Read_p.tab8 : rtab .any (opsOf Try.f14 8) = waggonerref10_Read_p.T8 := by kernel_rfl
theorem waggonerref10_Read_p.bits8 : waitsOk waggonerref10_Read_p.T8.2 waggonerref10_Read_p.B8 = true := by kernel_rfl
set_option maxHeartbeats 80000000 in
set_option maxRecDepth 100000 in
theorem waggonerref10_Read_p.calls (A0 : Option Addr) (c0 : Nat) (l0 : List Int) (r1 : Int) (r2 : Int) (r3 : Int) (r4 : Int) (r5 : List Int) (r6 : List (S39)) (r7 : Int) (w : World) (hr0 : Kd.C (Kd.int .u8) w A0 l0.length l0) (hc0 : l0.length ≤ c0) (h : waggonerref10_Read_p.f l0 = some (r1, r2, r3, r4, r5, r6, r7)) :
  Calls Try.prog 14 #[.slice A0 l0.length c0] w fun e w' => ∃ v4_ v5_ : Value, e = .returned (.tuple #[.agg #[.int .i64 r1, .int .i64 r2, .int .i64 r3, .int .i64 r4, v4_, v5_], .int .i64 r7]) ∧ Kd.R (Kd.int .u8) 5 w' w.heap.size (fun _ => True) v4_ r5 ∧ Kd.S k39 39 w' w.heap.size (fun k_ => some k_ ≠ (v4_ : Value).ownBlock) v5_ r6 ∧ Below w.heap.size w w' := by
 have hu26 := Try.underlying26
 have HR0 := Aside0.mk hr0
 have HC0 := Aside0.mk hc0
 clear hr0 hc0
 have HB := Aside0.mk (Below.refl w.heap.size w)
 have H : (if (l0.length : Int) < 9 then (some (0, 0, 0, 0, ([] : List Int), ([] : List (S39)), 100)) else (if 9 ≤ (l0.length : Int) then ((waggonerref01_Unpack.f (⟨#[98, 98, 98, 119, 104]⟩ : ByteArray) (l0.take 9)).bind fun bt353 => (if 0 < (bt353.1.length : Int) then (if 1 < (bt353.1.length : Int) then (if 2 < (bt353.1.length : Int) then (if 3 < (bt353.1.length : Int) then (if 4 < (bt353.1.length : Int) then (if ((l0.drop 9).length : Int) < (wrap64 (rd bt353.1 4)) then (some (0, 0, 0, 0, ([] : List Int), ([] : List (S39)), 100)) else (if 0 ≤ (rd bt353.1 4) then (if (rd bt353.1 4) ≤ ((l0.drop 9).length : Int) then (if ([] : List Int).length + ((l0.drop 9).take ((rd bt353.1 4) : Int).toNat).length < 140737488355328 then ((some (([] : List Int) ++ ((l0.drop 9).take ((rd bt353.1 4) : Int).toNat) : List Int)).bind fun y366 => (if (wrap64 (rd bt353.1 0)) = 8 then ((waggonerref07_Read.f ((l0.drop 9).drop ((rd bt353.1 4) : Int).toNat)).bind fun bt371 => (if bt371.2 = 0 then ((waggonerref10_Write.f (wrap64 (rd bt353.1 0)) (wrap64 (rd bt353.1 1)) (wrap64 (rd bt353.1 2)) (wrap64 (rd bt353.1 3)) y366 bt371.1).bind fun bt375 => (if bt375.2 = 0 then (if (strOfNums bt375.1).toList = (strOfNums l0).toList then (some (wrap64 (rd bt353.1 0), wrap64 (rd bt353.1 1), wrap64 (rd bt353.1 2), wrap64 (rd bt353.1 3), y366, bt371.1, 0)) else (some (0, 0, 0, 0, ([] : List Int), ([] : List (S39)), 100))) else (some (0, 0, 0, 0, ([] : List Int), ([] : List (S39)), 100)))) else (some (0, 0, 0, 0, ([] : List Int), ([] : List (S39)), 100)))) else ((waggonerref10_Write.f (wrap64 (rd bt353.1 0)) (wrap64 (rd bt353.1 1)) (wrap64 (rd bt353.1 2)) (wrap64 (rd bt353.1 3)) y366 ([] : List (S39))).bind fun bt379 => (if bt379.2 = 0 then (if (strOfNums bt379.1).toList = (strOfNums l0).toList then (some (wrap64 (rd bt353.1 0), wrap64 (rd bt353.1 1), wrap64 (rd bt353.1 2), wrap64 (rd bt353.1 3), y366, ([] : List (S39)), 0)) else (some (0, 0, 0, 0, ([] : List Int), ([] : List (S39)), 100))) else (some (0, 0, 0, 0, ([] : List Int), ([] : List (S39)), 100)))))) else (none)) else (none)) else (none))) else (none)) else (none)) else (none)) else (none)) else (none))) else (none))) = some (r1, r2, r3, r4, r5, r6, r7) := h
 clear h
 by_cases c2 : (l0.length : Int) < 9
 ·rw [if_pos c2] at H
  have c2b0 : decide ((l0.length : Int) < 9) = true := decide_eq_true c2
  have c2b1 : decide (l0.length < 9) = true := decide_eq_true (by omega)
  clear c2
  simp only [Option.some.injEq, Prod.mk.injEq] at H
  obtain ⟨rfl, rfl, rfl, rfl, rfl, rfl, rfl⟩ := H
  go_enter Try.func14, Try.ntmps14
  go_wp2_with (first | ((with_reducible refine gate_dst (N := 2) rfl ?_); refine Cz.bx (N := 2) #[.int .i64 0, .int .i64 0, .int .i64 0, .int .i64 0, .slice none 0 0, .slice none 0 0] 26 ?_; intro gb351 hg w3 hbox hb; have BK351 := Aside0.mk (hbox); have GW351 := Aside0.mk ((Cz.gs hg : w.heap.size ≤ gb351)); have GE351 := GW351; replace HB := Cz.bs (w := w) hb; clear hb hbox hg; obtain ⟨z4_0, z4_1, z4_2, z4_3, z4_4, z4_5, y4_0, y4_1, y4_2, y4_3, y4_4, y4_5⟩ := Cz.d6 BK351))
  refine bodyPost_ret (results_ct rfl _ _ gb351 26 #[.int .i64 0, .int .i64 0, .int .i64 0, .int .i64 0, .slice none 0 0, .slice none 0 0] (0, 0) _ rfl (by (with_reducible repeat (first | refine blk_drewN ?_ _ | refine blk_drew ?_ | refine blk_alloc ?_ _)); apply Cz.a6; (with_reducible repeat (first | refine blk_drewN ?_ _ | refine blk_drew ?_ | refine blk_alloc ?_ _)); exact BK351.out) Try.underlying26 rfl (by kernel_rfl)) rfl ?_
  exact ⟨_, _, Cz.er, by first | exact Kd.R_nil _ _ _ _ _ | exact Kd.N_nil _ _ _ _ _ | exact Kd.V_nil _ _ _ _ _ | exact Kd.Q_nil _ _ _ _ _ | exact Kd.S_nil _ _ _ _ _, by first | exact Kd.S_nil _ _ _ _ _ | exact Kd.N_nil _ _ _ _ _ | exact Kd.V_nil _ _ _ _ _ | exact Kd.Q_nil _ _ _ _ _ | exact Kd.R_nil _ _ _ _ _, by repeat (first | (with_reducible first | exact HB.out | apply below_alloc | apply pw_below_drewN | apply below_drew1 | refine below_set ?_ GE351.out) | exact HB.out)⟩
 ·rw [if_neg c2] at H
  have c2b0 : decide ((l0.length : Int) < 9) = false := decide_eq_false c2
  have c2b1 : decide (l0.length < 9) = false := decide_eq_false (by omega)
  clear c2
  by_cases c5 : 9 ≤ (l0.length : Int)
  ·rw [if_pos c5] at H
   have c5b0 := eq_true c5
   have c5b1 : decide (9 ≤ (l0.length : Int)) = true := decide_eq_true c5
   clear c5
   replace H := Option.bind_eq_some_iff.mp H
   obtain ⟨⟨t353, t356⟩, A60, H⟩ := H
   (try dsimp only at H)
   have A6 := Aside0.mk A60
   clear A60
   by_cases c7 : 0 < (t353.length : Int)
   ·rw [if_pos c7] at H
    have c7b0 : decide (0 < (t353.length : Int)) = true := decide_eq_true c7
    have c7b1 : decide (0 < t353.length) = true := decide_eq_true (by omega)
    clear c7
    by_cases c8 : 1 < (t353.length : Int)
    ·rw [if_pos c8] at H
     have c8b0 : decide (1 < (t353.length : Int)) = true := decide_eq_true c8
     have c8b1 : decide (1 < t353.length) = true := decide_eq_true (by omega)
     clear c8
     by_cases c9 : 2 < (t353.length : Int)
     ·rw [if_pos c9] at H
      have c9b0 : decide (2 < (t353.length : Int)) = true := decide_eq_true c9
      have c9b1 : decide (2 < t353.length) = true := decide_eq_true (by omega)
      clear c9
      by_cases c10 : 3 < (t353.length : Int)
      ·rw [if_pos c10] at H
       have c10b0 : decide (3 < (t353.length : Int)) = true := decide_eq_true c10
       have c10b1 : decide (3 < t353.length) = true := decide_eq_true (by omega)
       clear c10
       have c11b0 := eq_true (of_decide_eq_true (by first | (with_reducible assumption) | assumption) : 9 ≤ (l0.length : Int))
       by_cases c12 : 4 < (t353.length : Int)
       ·rw [if_pos c12] at H
        have c12b0 : decide (4 < (t353.length : Int)) = true := decide_eq_true c12
        have c12b1 : decide (4 < t353.length) = true := decide_eq_true (by omega)
        clear c12
        by_cases c13 : ((l0.drop 9).length : Int) < (wrap64 (rd t353 4))
        ·rw [if_pos c13] at H
         have c13b0 : decide (((l0.drop 9).length : Int) < (wrap64 (rd t353 4))) = true := decide_eq_true c13
         clear c13
         simp only [Option.some.injEq, Prod.mk.injEq] at H
         obtain ⟨rfl, rfl, rfl, rfl, rfl, rfl, rfl⟩ := H
         go_enter Try.func14, Try.ntmps14
         try go_wp2_with (first | ((with_reducible refine gate_dst (N := 2) rfl ?_); refine Cz.bx (N := 2) #[.int .i64 0, .int .i64 0, .int .i64 0, .int .i64 0, .slice none 0 0, .slice none 0 0] 26 ?_; intro gb351 hg w14 hbox hb; have BK351 := Aside0.mk (hbox); have GW351 := Aside0.mk ((Cz.gs hg : w.heap.size ≤ gb351)); have GE351 := GW351; replace HB := Cz.bs (w := w) hb; clear hb hbox hg; obtain ⟨i015, hi015, _, hsz15, _⟩ := info_parts info5; obtain ⟨hcut15, hA15, hC15⟩ := print_take_of (P := Try.prog) (Value.int .u8) 0 23 5 .i64 Try.underlying23 hi015 hsz15 A0 c0 l0 9 (by omega) (of_decide_eq_true (by first | (with_reducible assumption) | assumption)) HC0.out; have HR352 := Aside0.mk (Kd.C_of_reads (h1 := fun _ => rfl) (hA15 _ (Kd.reads_of_C HR0.out))); have HC352 := Aside0.mk hC15; clear hA15 hC15 hi015 hsz15) | ((with_reducible refine gate_callee (f := 27) rfl ?_); refine goesL_ (some 19) rfl rfl Try.func27 (by kernel_rfl) rfl #[.string (⟨#[98, 98, 98, 119, 104]⟩ : ByteArray), .slice A0 (l0.take 9).length c0] rfl (by (try simp only [List.map_toArray, List.map_cons, List.map_nil]); first | done | (rw [show (l0.take 9).length = 9 from (by rw [List.length_take]; have h_ : (9 : Int) ≤ (l0.length : Int) := of_decide_eq_true (by first | (with_reducible assumption) | assumption); omega)] <;> rfl) | rfl | (simp only [List.length_drop, List.length_take]; rfl)) ?_; (with_reducible refine (waggonerref01_Unpack.calls (⟨#[98, 98, 98, 119, 104]⟩ : ByteArray) (fun k_ => k_ < w.heap.size) _ _ (l0.take 9) t353 t356 _ ?side1 A6.out).mono ?_); (case side1 => exact Kd.V_mk HC352.out (Kd.F_below (Kd.C_F (Kd.heap_int .u8) HR352.out) (by repeat (first | (with_reducible first | exact HB.out | apply below_alloc | apply pw_below_drewN | apply below_drew1 | refine below_set ?_ GE351.out) | exact HB.out)))); rintro e w16 ⟨v354, rfl, ho0, hb⟩; refine ⟨_, rfl, ?_⟩; have HO355 := Aside0.mk (Kd.R_lower (Kd.R_mono (ok' := fun k_ => True) ho0 (fun _ hk_ => trivial)) (below_size (by repeat (first | (with_reducible first | exact HB.out | apply below_alloc | apply pw_below_drewN | apply below_drew1 | refine below_set ?_ GE351.out) | exact HB.out)))); replace BK351 := Cz.bk BK351 hb; replace HB := Cz.bs (w := w) hb; (try clear hb); (try clear ho0)))
         replace HO355 := Aside0.mk (Kd.R_drew HO355.out)
         replace BK351 := Aside0.mk (blk_drew BK351.out)
         replace HB := Aside0.mk (below_drew1 HB.out)
         obtain ⟨Ao18, co18, eo18⟩ := Kd.R_slice HO355.out
         (first | subst eo18 | (injection eo18 with f1_ f2_ f3_; have f4_ := f1_.symm; have f5_ := f3_.symm; clear f1_ f2_ f3_; subst f4_; subst f5_))
         have p357 : 0 ≤ (0 : Int) := (by omega)
         have q357 : 0 < (t353.length : Int) := of_decide_eq_true (by first | (with_reducible assumption) | assumption)
         obtain ⟨ad357, e357, hx357_0⟩ := Kd.at_int (Kd.R_reads' HO355.out).2.2 0 p357 q357
         cases e357
         have qi357 : (0 < t353.length) = True := eq_true (by omega)
         (try rw [show ((0 : Int)).toNat = 0 from rfl] at hx357_0)
         (try rw [Addr.add_zero'] at hx357_0)
         replace p357 := eq_true p357
         replace q357 := eq_true q357
         have p358 : 0 ≤ (1 : Int) := (by omega)
         have q358 : 1 < (t353.length : Int) := of_decide_eq_true (by first | (with_reducible assumption) | assumption)
         obtain ⟨ad358, e358, hx358_0⟩ := Kd.at_int (Kd.R_reads' HO355.out).2.2 1 p358 q358
         obtain rfl : ad357 = ad358 := (by injection e358)
         (try simp only [show (1 : Int).toNat = 1 from rfl, Nat.reduceMul, Nat.reduceEqDiff, Go.Addr.add, ↓reduceIte] at hx358_0)
         have qi358 : (1 < t353.length) = True := eq_true (by omega)
         (try rw [show ((1 : Int)).toNat = 1 from rfl] at hx358_0)
         replace p358 := eq_true p358
         replace q358 := eq_true q358
         have p359 : 0 ≤ (2 : Int) := (by omega)
         have q359 : 2 < (t353.length : Int) := of_decide_eq_true (by first | (with_reducible assumption) | assumption)
         obtain ⟨ad359, e359, hx359_0⟩ := Kd.at_int (Kd.R_reads' HO355.out).2.2 2 p359 q359
         obtain rfl : ad357 = ad359 := (by injection e359)
         (try simp only [show (2 : Int).toNat = 2 from rfl, Nat.reduceMul, Nat.reduceEqDiff, Go.Addr.add, ↓reduceIte] at hx359_0)
         have qi359 : (2 < t353.length) = True := eq_true (by omega)
         (try rw [show ((2 : Int)).toNat = 2 from rfl] at hx359_0)
         replace p359 := eq_true p359
         replace q359 := eq_true q359
         have p360 : 0 ≤ (3 : Int) := (by omega)
         have q360 : 3 < (t353.length : Int) := of_decide_eq_true (by first | (with_reducible assumption) | assumption)
         obtain ⟨ad360, e360, hx360_0⟩ := Kd.at_int (Kd.R_reads' HO355.out).2.2 3 p360 q360
         obtain rfl : ad357 = ad360 := (by injection e360)
         (try simp only [show (3 : Int).toNat = 3 from rfl, Nat.reduceMul, Nat.reduceEqDiff, Go.Addr.add, ↓reduceIte] at hx360_0)
         have qi360 : (3 < t353.length) = True := eq_true (by omega)
         (try rw [show ((3 : Int)).toNat = 3 from rfl] at hx360_0)
         replace p360 := eq_true p360
         replace q360 := eq_true q360
         refine start_ (n := 19) (S := fun w' => w'.cell? ad357 = some (.int .u64 (rd t353 0)) ∧ w'.cell? ⟨ad357.block, ad357.off + 1, none⟩ = some (.int .u64 (rd t353 1)) ∧ w'.cell? ⟨ad357.block, ad357.off + 2, none⟩ = some (.int .u64 (rd t353 2)) ∧ w'.cell? ⟨ad357.block, ad357.off + 3, none⟩ = some (.int .u64 (rd t353 3))) (ds := [18]) #[false, false, false, false, false, false, false, false, false, false, false, false, false, false, false, false, false, false, false] (by kernel_rfl) rfl rfl ⟨hx357_0, hx358_0, hx359_0, hx360_0⟩ (fun hHeld => ?_); refine with_tabW waggonerref10_Read_p.tab4 waggonerref10_Read_p.bits4 (fun HT_ HW_ => ?_)
         generalize w16.drew = w17 at HO355 BK351 HB hx357_0 hx358_0 hx359_0 hx360_0 hHeld ⊢
         refine Cz.qP 0 22 HT_ ?_
         refine Cz.qP 1 23 HT_ ?_
         refine Cz.qP 4 26 HT_ ?_
         refine Cz.qP 5 27 HT_ ?_
         refine Cz.qP 8 30 HT_ ?_
         refine Cz.qP 9 31 HT_ ?_
         refine Cz.qP 12 34 HT_ ?_
         refine Cz.qP 13 35 HT_ ?_
         refine Cz.qT 2 24 HT_ HW_ hHeld ?_
         refine Cz.qP 3 25 HT_ ?_
         refine Cz.qT 6 28 HT_ HW_ hHeld ?_
         refine Cz.qP 7 29 HT_ ?_
         refine Cz.qT 10 32 HT_ HW_ hHeld ?_
         refine Cz.qP 11 33 HT_ ?_
         refine Cz.qT 14 36 HT_ HW_ hHeld ?_
         refine Cz.qP 15 37 HT_ ?_
         refine Cz.qP 16 38 HT_ ?_
         refine Cz.qO (N := some 6) 17 HT_ (fun K hK => ?_)
         refine box_step ?hg (N := 6) ?hd (cs := #[.int .i64 0, .int .i64 0, .int .i64 0, .int .i64 0, .slice none 0 0, .slice none 0 0]) (t := 26) ?hr ?_; (case hd => rfl); (case hg => rfl); (case hr => first | (go_simp; done) | (go_simp; rfl))
         intro gb361 hg w19 hbox hb
         have HS0_ := (hb.cell (World.block_lt_of_cell? _ _ (hHeld.1))).trans (hHeld.1)
         have HS1_ := (hb.cell (World.block_lt_of_cell? _ _ (hHeld.2.1))).trans (hHeld.2.1)
         have HS2_ := (hb.cell (World.block_lt_of_cell? _ _ (hHeld.2.2.1))).trans (hHeld.2.2.1)
         have HS3_ := (hb.cell (World.block_lt_of_cell? _ _ (hHeld.2.2.2))).trans (hHeld.2.2.2)
         have BK361 := Aside0.mk (hbox)
         have GW361 := Aside0.mk ((Cz.gs hg : w.heap.size ≤ gb361))
         have GE361 := GW361
         have NB351_361 := Aside0.mk ((Cz.nl BK351 hg : gb351 ≠ gb361))
         have NB361_351 := Aside0.mk ((Cz.nr BK351 hg : gb361 ≠ gb351))
         replace HO355 := Cz.rb HO355 hb
         replace BK351 := Cz.bk BK351 hb
         replace HB := Cz.bs (w := w) hb
         clear hb hbox hg
         refine hK.out _ _ ⟨HS0_, HS1_, HS2_, HS3_⟩ (fun hHeld => ?_)
         clear hK K
         refine norm_ (a' := ?_) ?_ ?_
         rotate_left
         ·show Act.put _ (some 6) _ = _
          simp only [Act.put, Kx.sb, Kx.sz, Kx.ss, i64_w, i32_w]
          rfl
         refine last_ (i := 18) (N := none) #[true, true, true, true, true, true, true, true, true, true, true, true, true, true, true, true, true, true, true] rfl rfl (one_of HT_.out (by kernel_rfl)) (by decide) (fun K hK => ?_)
         have hs20 : w19.cell? ⟨gb361, 0, none⟩ = some (.int .i64 0) := (blk_cell BK361.out 0).trans rfl
         have hfs20 := blk_frozen BK361.out 0
         have hns20_0 := NB351_361.out
         have hms20_0 := NB361_351.out
         have hs21 : w19.cell? ⟨gb361, 1, none⟩ = some (.int .i64 0) := (blk_cell BK361.out 1).trans rfl
         have hfs21 := blk_frozen BK361.out 1
         have hns21_0 := NB351_361.out
         have hms21_0 := NB361_351.out
         have hs22 : w19.cell? ⟨gb361, 2, none⟩ = some (.int .i64 0) := (blk_cell BK361.out 2).trans rfl
         have hfs22 := blk_frozen BK361.out 2
         have hns22_0 := NB351_361.out
         have hms22_0 := NB361_351.out
         have hs23 : w19.cell? ⟨gb361, 3, none⟩ = some (.int .i64 0) := (blk_cell BK361.out 3).trans rfl
         have hfs23 := blk_frozen BK361.out 3
         have hns23_0 := NB351_361.out
         have hms23_0 := NB361_351.out
         have hs24 : w19.cell? ⟨gb361, 4, none⟩ = some (.slice none 0 0) := (blk_cell BK361.out 4).trans rfl
         have hfs24 := blk_frozen BK361.out 4
         have hns24_0 := NB351_361.out
         have hms24_0 := NB361_351.out
         have hs25 : w19.cell? ⟨gb361, 5, none⟩ = some (.slice none 0 0) := (blk_cell BK361.out 5).trans rfl
         have hfs25 := blk_frozen BK361.out 5
         have hns25_0 := NB351_361.out
         have hms25_0 := NB361_351.out
         refine skip_ (w1 := ?_) (by rfl) rfl ?_ ?_
         rotate_left
         ·go_simp
          rfl
         refine hK.out _ _ ?_
         clear hK K
         refine done_ (done_of HT_.out (by kernel_rfl)) ?_
         obtain ⟨i026, hi026, _, hsz26, _⟩ := info_parts info5
         obtain ⟨A26, hcut26, hA26, hC26⟩ := print_drop_of (P := Try.prog) (Value.int .u8) 0 23 5 .i64 Try.underlying23 hi026 hsz26 A0 c0 l0 9 (by omega) (of_decide_eq_true (by first | (with_reducible assumption) | assumption)) HC0.out
         have HR362 := Aside0.mk (Kd.C_of_reads (h1 := fun _ => rfl) (hA26 _ (Kd.reads_of_C HR0.out)))
         have HC362 := Aside0.mk hC26
         clear hA26 hC26 hi026 hsz26
         have p363 : 0 ≤ (4 : Int) := (by omega)
         have q363 : 4 < (t353.length : Int) := of_decide_eq_true (by first | (with_reducible assumption) | assumption)
         obtain ⟨ad363, e363, hx363_0⟩ := Kd.at_int (Kd.R_reads' HO355.out).2.2 4 p363 q363
         obtain rfl : ad357 = ad363 := (by injection e363)
         (try simp only [show (4 : Int).toNat = 4 from rfl, Nat.reduceMul, Nat.reduceEqDiff, Go.Addr.add, ↓reduceIte] at hx363_0)
         have qi363 : (4 < t353.length) = True := eq_true (by omega)
         (try rw [show ((4 : Int)).toNat = 4 from rfl] at hx363_0)
         have hn363_0 : ad357.block ≠ gb361 := Kd.own_blk (Kd.R_ne HO355.out BK361.out (by decide))
         have hn363_1 : ad357.block ≠ gb361 := Kd.own_blk (Kd.R_ne HO355.out BK361.out (by decide))
         have hn363_2 : ad357.block ≠ gb361 := Kd.own_blk (Kd.R_ne HO355.out BK361.out (by decide))
         have hn363_3 : ad357.block ≠ gb361 := Kd.own_blk (Kd.R_ne HO355.out BK361.out (by decide))
         have hn363_4 : ad357.block ≠ gb361 := Kd.own_blk (Kd.R_ne HO355.out BK361.out (by decide))
         have hn363_5 : ad357.block ≠ gb361 := Kd.own_blk (Kd.R_ne HO355.out BK361.out (by decide))
         replace hx363_0 := (cell_far (p := ⟨gb361, 0, none⟩) (by first | (rw [add_block]; exact hn363_0) | (show (Addr.add _ _).block ≠ _; rw [add_block]; exact hn363_0) | exact hn363_0) (.int .i64 (wrap64 (rd t353 0)))).trans hx363_0
         replace hx363_0 := (cell_far (p := ⟨gb361, 1, none⟩) (by first | (rw [add_block]; exact hn363_1) | (show (Addr.add _ _).block ≠ _; rw [add_block]; exact hn363_1) | exact hn363_1) (.int .i64 (wrap64 (rd t353 1)))).trans hx363_0
         replace hx363_0 := (cell_far (p := ⟨gb361, 2, none⟩) (by first | (rw [add_block]; exact hn363_2) | (show (Addr.add _ _).block ≠ _; rw [add_block]; exact hn363_2) | exact hn363_2) (.int .i64 (wrap64 (rd t353 2)))).trans hx363_0
         replace hx363_0 := (cell_far (p := ⟨gb361, 3, none⟩) (by first | (rw [add_block]; exact hn363_3) | (show (Addr.add _ _).block ≠ _; rw [add_block]; exact hn363_3) | exact hn363_3) (.int .i64 (wrap64 (rd t353 3)))).trans hx363_0
         replace hx363_0 := (cell_far (p := ⟨gb361, 4, none⟩) (by first | (rw [add_block]; exact hn363_4) | (show (Addr.add _ _).block ≠ _; rw [add_block]; exact hn363_4) | exact hn363_4) (.slice none 0 0)).trans hx363_0
         replace hx363_0 := (cell_far (p := ⟨gb361, 5, none⟩) (by first | (rw [add_block]; exact hn363_5) | (show (Addr.add _ _).block ≠ _; rw [add_block]; exact hn363_5) | exact hn363_5) (.slice none 0 0)).trans hx363_0
         clear hn363_0
         clear hn363_1
         clear hn363_2
         clear hn363_3
         clear hn363_4
         clear hn363_5
         replace p363 := eq_true p363
         replace q363 := eq_true q363
         have hnb27 := NB351_361.out
         have hnc27 := NB361_351.out
         have c13b0x : decide (((l0.length - 9 : Nat) : Int) < (wrap64 (rd t353 4))) = true := by have q_ := c13b0; rw [List.length_drop] at q_; exact q_
         (try clear hs20)
         (try clear hfs20)
         (try clear hns20_0)
         (try clear hms20_0)
         (try clear hs21)
         (try clear hfs21)
         (try clear hns21_0)
         (try clear hms21_0)
         (try clear hs22)
         (try clear hfs22)
         (try clear hns22_0)
         (try clear hms22_0)
         (try clear hs23)
         (try clear hfs23)
         (try clear hns23_0)
         (try clear hms23_0)
         (try clear hs24)
         (try clear hfs24)
         (try clear hns24_0)
         (try clear hms24_0)
         (try clear hs25)
         (try clear hfs25)
         (try clear hns25_0)
         (try clear hms25_0)
         (try clear hx357_0)
         (try clear hx358_0)
         (try clear hx359_0)
         (try clear hx360_0)
         (try clear hHeld)
         (try clear info5)
         have n0_ : Aside0 (Kd.R (Kd.int .u64) 44 ((((((w19.setCell ⟨gb361, 0, none⟩ (.int .i64 (wrap64 (rd t353 0)))).setCell ⟨gb361, 1, none⟩ (.int .i64 (wrap64 (rd t353 1)))).setCell ⟨gb361, 2, none⟩ (.int .i64 (wrap64 (rd t353 2)))).setCell ⟨gb361, 3, none⟩ (.int .i64 (wrap64 (rd t353 3)))).setCell ⟨gb361, 4, none⟩ (.slice none 0 0)).setCell ⟨gb361, 5, none⟩ (.slice none 0 0)) w.heap.size (fun _ => True) (.slice (some ad357) t353.length co18) t353) := ⟨by (with_reducible repeat (first | apply Kd.R_alloc | apply Kd.R_drewN | apply Kd.R_drew)); exact Kd.R_mono (Kd.R_far (p := ⟨gb361, 5, none⟩) (Kd.R_far (p := ⟨gb361, 4, none⟩) (Kd.R_far (p := ⟨gb361, 3, none⟩) (Kd.R_far (p := ⟨gb361, 2, none⟩) (Kd.R_far (p := ⟨gb361, 1, none⟩) (Kd.R_far (p := ⟨gb361, 0, none⟩) (Kd.R_types HO355.out BK361.out (by decide)) (fun _ hk => hk.2) (.int .i64 (wrap64 (rd t353 0)))) (fun _ hk => hk.2) (.int .i64 (wrap64 (rd t353 1)))) (fun _ hk => hk.2) (.int .i64 (wrap64 (rd t353 2)))) (fun _ hk => hk.2) (.int .i64 (wrap64 (rd t353 3)))) (fun _ hk => hk.2) (.slice none 0 0)) (fun _ hk => hk.2) (.slice none 0 0)) (fun _ hk => trivial)⟩
         have n1_ : Aside0 (((((((w19.setCell ⟨gb361, 0, none⟩ (.int .i64 (wrap64 (rd t353 0)))).setCell ⟨gb361, 1, none⟩ (.int .i64 (wrap64 (rd t353 1)))).setCell ⟨gb361, 2, none⟩ (.int .i64 (wrap64 (rd t353 2)))).setCell ⟨gb361, 3, none⟩ (.int .i64 (wrap64 (rd t353 3)))).setCell ⟨gb361, 4, none⟩ (.slice none 0 0)).setCell ⟨gb361, 5, none⟩ (.slice none 0 0)).heap[gb351]? = some (.cells #[.int .i64 0, .int .i64 0, .int .i64 0, .int .i64 0, .slice none 0 0, .slice none 0 0] 26 (0, 0))) := ⟨by (with_reducible repeat (first | refine blk_drewN ?_ _ | refine blk_drew ?_ | refine blk_alloc ?_ _)); refine blk_far ?_ NB351_361.out _; refine blk_far ?_ NB351_361.out _; refine blk_far ?_ NB351_361.out _; refine blk_far ?_ NB351_361.out _; refine blk_far ?_ NB351_361.out _; refine blk_far ?_ NB351_361.out _; (with_reducible repeat (first | refine blk_drewN ?_ _ | refine blk_drew ?_ | refine blk_alloc ?_ _)); exact BK351.out⟩
         have n2_ : Aside0 (((((((w19.setCell ⟨gb361, 0, none⟩ (.int .i64 (wrap64 (rd t353 0)))).setCell ⟨gb361, 1, none⟩ (.int .i64 (wrap64 (rd t353 1)))).setCell ⟨gb361, 2, none⟩ (.int .i64 (wrap64 (rd t353 2)))).setCell ⟨gb361, 3, none⟩ (.int .i64 (wrap64 (rd t353 3)))).setCell ⟨gb361, 4, none⟩ (.slice none 0 0)).setCell ⟨gb361, 5, none⟩ (.slice none 0 0)).heap[gb361]? = some (.cells #[.int .i64 (wrap64 (rd t353 0)), .int .i64 (wrap64 (rd t353 1)), .int .i64 (wrap64 (rd t353 2)), .int .i64 (wrap64 (rd t353 3)), .slice none 0 0, .slice none 0 0] 26 (0, 0))) := ⟨by (with_reducible repeat (first | refine blk_drewN ?_ _ | refine blk_drew ?_ | refine blk_alloc ?_ _)); apply Cz.a6; (with_reducible repeat (first | refine blk_drewN ?_ _ | refine blk_drew ?_ | refine blk_alloc ?_ _)); exact BK361.out⟩
         have n3_ : Aside0 (Below w.heap.size w ((((((w19.setCell ⟨gb361, 0, none⟩ (.int .i64 (wrap64 (rd t353 0)))).setCell ⟨gb361, 1, none⟩ (.int .i64 (wrap64 (rd t353 1)))).setCell ⟨gb361, 2, none⟩ (.int .i64 (wrap64 (rd t353 2)))).setCell ⟨gb361, 3, none⟩ (.int .i64 (wrap64 (rd t353 3)))).setCell ⟨gb361, 4, none⟩ (.slice none 0 0)).setCell ⟨gb361, 5, none⟩ (.slice none 0 0))) := ⟨by repeat (first | (with_reducible first | exact HB.out | apply below_alloc | apply pw_below_drewN | apply below_drew1 | refine below_set ?_ GE351.out | refine below_set ?_ GE361.out) | exact HB.out)⟩
         (try clear HO355)
         (try clear BK351)
         (try clear BK361)
         (try clear HB)
         generalize ((((((w19.setCell ⟨gb361, 0, none⟩ (.int .i64 (wrap64 (rd t353 0)))).setCell ⟨gb361, 1, none⟩ (.int .i64 (wrap64 (rd t353 1)))).setCell ⟨gb361, 2, none⟩ (.int .i64 (wrap64 (rd t353 2)))).setCell ⟨gb361, 3, none⟩ (.int .i64 (wrap64 (rd t353 3)))).setCell ⟨gb361, 4, none⟩ (.slice none 0 0)).setCell ⟨gb361, 5, none⟩ (.slice none 0 0)) = w53a at n0_ n1_ n2_ n3_ hx363_0 ⊢
         have HO355 := n0_
         have BK351 := n1_
         have BK361 := n2_
         have HB := n3_
         clear n0_ n1_ n2_ n3_
         obtain ⟨z28_0, z28_1, z28_2, z28_3, z28_4, z28_5, y28_0, y28_1, y28_2, y28_3, y28_4, y28_5⟩ := Cz.d6 BK351
         try go_wp2
         refine bodyPost_ret (results_ct rfl _ _ gb351 26 #[.int .i64 0, .int .i64 0, .int .i64 0, .int .i64 0, .slice none 0 0, .slice none 0 0] (0, 0) _ rfl (by (with_reducible repeat (first | refine blk_drewN ?_ _ | refine blk_drew ?_ | refine blk_alloc ?_ _)); apply Cz.a6; (with_reducible repeat (first | refine blk_drewN ?_ _ | refine blk_drew ?_ | refine blk_alloc ?_ _)); exact BK351.out) Try.underlying26 rfl (by kernel_rfl)) rfl ?_
         exact ⟨_, _, Cz.er, by first | exact Kd.R_nil _ _ _ _ _ | exact Kd.N_nil _ _ _ _ _ | exact Kd.V_nil _ _ _ _ _ | exact Kd.Q_nil _ _ _ _ _ | exact Kd.S_nil _ _ _ _ _, by first | exact Kd.S_nil _ _ _ _ _ | exact Kd.N_nil _ _ _ _ _ | exact Kd.V_nil _ _ _ _ _ | exact Kd.Q_nil _ _ _ _ _ | exact Kd.R_nil _ _ _ _ _, by repeat (first | (with_reducible first | exact HB.out | apply below_alloc | apply pw_below_drewN | apply below_drew1 | refine below_set ?_ GE351.out | refine below_set ?_ GE361.out) | exact HB.out)⟩
        ·rw [if_neg c13] at H
         have c13b0 : decide (((l0.drop 9).length : Int) < (wrap64 (rd t353 4))) = false := decide_eq_false c13
         clear c13
         by_cases c29 : 0 ≤ (rd t353 4)
         ·rw [if_pos c29] at H
          have c29b0 := eq_true c29
          have c29b1 : decide (0 ≤ (rd t353 4)) = true := decide_eq_true c29
          clear c29
          by_cases c30 : (rd t353 4) ≤ ((l0.drop 9).length : Int)
          ·rw [if_pos c30] at H
           have c30b0 := eq_true c30
           have c30b1 : decide ((rd t353 4) ≤ ((l0.drop 9).length : Int)) = true := decide_eq_true c30
           clear c30
           by_cases c31 : ([] : List Int).length + ((l0.drop 9).take ((rd t353 4) : Int).toNat).length < 140737488355328
           ·rw [if_pos c31] at H
            have LMc31 := Aside0.mk c31
            clear c31
            obtain ⟨y366, hy366⟩ : ∃ y_ : List Int, y_ = (([] : List Int) ++ ((l0.drop 9).take ((rd t353 4) : Int).toNat)) := ⟨_, rfl⟩
            replace H : (if (wrap64 (rd t353 0)) = 8 then ((waggonerref07_Read.f ((l0.drop 9).drop ((rd t353 4) : Int).toNat)).bind fun bt371 => (if bt371.2 = 0 then ((waggonerref10_Write.f (wrap64 (rd t353 0)) (wrap64 (rd t353 1)) (wrap64 (rd t353 2)) (wrap64 (rd t353 3)) y366 bt371.1).bind fun bt375 => (if bt375.2 = 0 then (if (strOfNums bt375.1).toList = (strOfNums l0).toList then (some (wrap64 (rd t353 0), wrap64 (rd t353 1), wrap64 (rd t353 2), wrap64 (rd t353 3), y366, bt371.1, 0)) else (some (0, 0, 0, 0, ([] : List Int), ([] : List (S39)), 100))) else (some (0, 0, 0, 0, ([] : List Int), ([] : List (S39)), 100)))) else (some (0, 0, 0, 0, ([] : List Int), ([] : List (S39)), 100)))) else ((waggonerref10_Write.f (wrap64 (rd t353 0)) (wrap64 (rd t353 1)) (wrap64 (rd t353 2)) (wrap64 (rd t353 3)) y366 ([] : List (S39))).bind fun bt379 => (if bt379.2 = 0 then (if (strOfNums bt379.1).toList = (strOfNums l0).toList then (some (wrap64 (rd t353 0), wrap64 (rd t353 1), wrap64 (rd t353 2), wrap64 (rd t353 3), y366, ([] : List (S39)), 0)) else (some (0, 0, 0, 0, ([] : List Int), ([] : List (S39)), 100))) else (some (0, 0, 0, 0, ([] : List Int), ([] : List (S39)), 100))))) = some (r1, r2, r3, r4, r5, r6, r7) := by first | (rw [hy366]; with_reducible exact H) | (have H2_ := (Option.bind_some _ _).symm.trans H; rw [hy366]; with_reducible exact H2_) | (have H2_ := (Option.bind_some _ _).symm.trans H; with_reducible exact H2_) | with_reducible exact H | (rw [hy366]; exact H) | exact H
            have Ny366 := Aside0.mk hy366
            clear hy366
            go_enter Try.func14, Try.ntmps14
            try go_wp2_with (first | ((with_reducible refine gate_dst (N := 2) rfl ?_); refine Cz.bx (N := 2) #[.int .i64 0, .int .i64 0, .int .i64 0, .int .i64 0, .slice none 0 0, .slice none 0 0] 26 ?_; intro gb351 hg w40 hbox hb; have BK351 := Aside0.mk (hbox); have GW351 := Aside0.mk ((Cz.gs hg : w.heap.size ≤ gb351)); have GE351 := GW351; replace HB := Cz.bs (w := w) hb; clear hb hbox hg; obtain ⟨i041, hi041, _, hsz41, _⟩ := info_parts info5; obtain ⟨hcut41, hA41, hC41⟩ := print_take_of (P := Try.prog) (Value.int .u8) 0 23 5 .i64 Try.underlying23 hi041 hsz41 A0 c0 l0 9 (by omega) (of_decide_eq_true (by first | (with_reducible assumption) | assumption)) HC0.out; have HR352 := Aside0.mk (Kd.C_of_reads (h1 := fun _ => rfl) (hA41 _ (Kd.reads_of_C HR0.out))); have HC352 := Aside0.mk hC41; clear hA41 hC41 hi041 hsz41) | ((with_reducible refine gate_callee (f := 27) rfl ?_); refine goesL_ (some 19) rfl rfl Try.func27 (by kernel_rfl) rfl #[.string (⟨#[98, 98, 98, 119, 104]⟩ : ByteArray), .slice A0 (l0.take 9).length c0] rfl (by (try simp only [List.map_toArray, List.map_cons, List.map_nil]); first | done | (rw [show (l0.take 9).length = 9 from (by rw [List.length_take]; have h_ : (9 : Int) ≤ (l0.length : Int) := of_decide_eq_true (by first | (with_reducible assumption) | assumption); omega)] <;> rfl) | rfl | (simp only [List.length_drop, List.length_take]; rfl)) ?_; (with_reducible refine (waggonerref01_Unpack.calls (⟨#[98, 98, 98, 119, 104]⟩ : ByteArray) (fun k_ => k_ < w.heap.size) _ _ (l0.take 9) t353 t356 _ ?side1 A6.out).mono ?_); (case side1 => exact Kd.V_mk HC352.out (Kd.F_below (Kd.C_F (Kd.heap_int .u8) HR352.out) (by repeat (first | (with_reducible first | exact HB.out | apply below_alloc | apply pw_below_drewN | apply below_drew1 | refine below_set ?_ GE351.out) | exact HB.out)))); rintro e w42 ⟨v354, rfl, ho0, hb⟩; refine ⟨_, rfl, ?_⟩; have HO355 := Aside0.mk (Kd.R_lower (Kd.R_mono (ok' := fun k_ => True) ho0 (fun _ hk_ => trivial)) (below_size (by repeat (first | (with_reducible first | exact HB.out | apply below_alloc | apply pw_below_drewN | apply below_drew1 | refine below_set ?_ GE351.out) | exact HB.out)))); replace BK351 := Cz.bk BK351 hb; replace HB := Cz.bs (w := w) hb; (try clear hb); (try clear ho0)))
            replace HO355 := Aside0.mk (Kd.R_drew HO355.out)
            replace BK351 := Aside0.mk (blk_drew BK351.out)
            replace HB := Aside0.mk (below_drew1 HB.out)
            obtain ⟨Ao44, co44, eo44⟩ := Kd.R_slice HO355.out
            (first | subst eo44 | (injection eo44 with f1_ f2_ f3_; have f4_ := f1_.symm; have f5_ := f3_.symm; clear f1_ f2_ f3_; subst f4_; subst f5_))
            have p357 : 0 ≤ (0 : Int) := (by omega)
            have q357 : 0 < (t353.length : Int) := of_decide_eq_true (by first | (with_reducible assumption) | assumption)
            obtain ⟨ad357, e357, hx357_0⟩ := Kd.at_int (Kd.R_reads' HO355.out).2.2 0 p357 q357
            cases e357
            have qi357 : (0 < t353.length) = True := eq_true (by omega)
            (try rw [show ((0 : Int)).toNat = 0 from rfl] at hx357_0)
            (try rw [Addr.add_zero'] at hx357_0)
            replace p357 := eq_true p357
            replace q357 := eq_true q357
            have p358 : 0 ≤ (1 : Int) := (by omega)
            have q358 : 1 < (t353.length : Int) := of_decide_eq_true (by first | (with_reducible assumption) | assumption)
            obtain ⟨ad358, e358, hx358_0⟩ := Kd.at_int (Kd.R_reads' HO355.out).2.2 1 p358 q358
            obtain rfl : ad357 = ad358 := (by injection e358)
            (try simp only [show (1 : Int).toNat = 1 from rfl, Nat.reduceMul, Nat.reduceEqDiff, Go.Addr.add, ↓reduceIte] at hx358_0)
            have qi358 : (1 < t353.length) = True := eq_true (by omega)
            (try rw [show ((1 : Int)).toNat = 1 from rfl] at hx358_0)
            replace p358 := eq_true p358
            replace q358 := eq_true q358
            have p359 : 0 ≤ (2 : Int) := (by omega)
            have q359 : 2 < (t353.length : Int) := of_decide_eq_true (by first | (with_reducible assumption) | assumption)
            obtain ⟨ad359, e359, hx359_0⟩ := Kd.at_int (Kd.R_reads' HO355.out).2.2 2 p359 q359
            obtain rfl : ad357 = ad359 := (by injection e359)
            (try simp only [show (2 : Int).toNat = 2 from rfl, Nat.reduceMul, Nat.reduceEqDiff, Go.Addr.add, ↓reduceIte] at hx359_0)
            have qi359 : (2 < t353.length) = True := eq_true (by omega)
            (try rw [show ((2 : Int)).toNat = 2 from rfl] at hx359_0)
            replace p359 := eq_true p359
            replace q359 := eq_true q359
            have p360 : 0 ≤ (3 : Int) := (by omega)
            have q360 : 3 < (t353.length : Int) := of_decide_eq_true (by first | (with_reducible assumption) | assumption)
            obtain ⟨ad360, e360, hx360_0⟩ := Kd.at_int (Kd.R_reads' HO355.out).2.2 3 p360 q360
            obtain rfl : ad357 = ad360 := (by injection e360)
            (try simp only [show (3 : Int).toNat = 3 from rfl, Nat.reduceMul, Nat.reduceEqDiff, Go.Addr.add, ↓reduceIte] at hx360_0)
            have qi360 : (3 < t353.length) = True := eq_true (by omega)
            (try rw [show ((3 : Int)).toNat = 3 from rfl] at hx360_0)
            replace p360 := eq_true p360
            replace q360 := eq_true q360
            refine start_ (n := 19) (S := fun w' => w'.cell? ad357 = some (.int .u64 (rd t353 0)) ∧ w'.cell? ⟨ad357.block, ad357.off + 1, none⟩ = some (.int .u64 (rd t353 1)) ∧ w'.cell? ⟨ad357.block, ad357.off + 2, none⟩ = some (.int .u64 (rd t353 2)) ∧ w'.cell? ⟨ad357.block, ad357.off + 3, none⟩ = some (.int .u64 (rd t353 3))) (ds := [18]) #[false, false, false, false, false, false, false, false, false, false, false, false, false, false, false, false, false, false, false] (by kernel_rfl) rfl rfl ⟨hx357_0, hx358_0, hx359_0, hx360_0⟩ (fun hHeld => ?_); refine with_tabW waggonerref10_Read_p.tab4 waggonerref10_Read_p.bits4 (fun HT_ HW_ => ?_)
            generalize w42.drew = w43 at HO355 BK351 HB hx357_0 hx358_0 hx359_0 hx360_0 hHeld ⊢
            refine Cz.qP 0 22 HT_ ?_
            refine Cz.qP 1 23 HT_ ?_
            refine Cz.qP 4 26 HT_ ?_
            refine Cz.qP 5 27 HT_ ?_
            refine Cz.qP 8 30 HT_ ?_
            refine Cz.qP 9 31 HT_ ?_
            refine Cz.qP 12 34 HT_ ?_
            refine Cz.qP 13 35 HT_ ?_
            refine Cz.qT 2 24 HT_ HW_ hHeld ?_
            refine Cz.qP 3 25 HT_ ?_
            refine Cz.qT 6 28 HT_ HW_ hHeld ?_
            refine Cz.qP 7 29 HT_ ?_
            refine Cz.qT 10 32 HT_ HW_ hHeld ?_
            refine Cz.qP 11 33 HT_ ?_
            refine Cz.qT 14 36 HT_ HW_ hHeld ?_
            refine Cz.qP 15 37 HT_ ?_
            refine Cz.qP 16 38 HT_ ?_
            refine Cz.qO (N := some 6) 17 HT_ (fun K hK => ?_)
            refine box_step ?hg (N := 6) ?hd (cs := #[.int .i64 0, .int .i64 0, .int .i64 0, .int .i64 0, .slice none 0 0, .slice none 0 0]) (t := 26) ?hr ?_; (case hd => rfl); (case hg => rfl); (case hr => first | (go_simp; done) | (go_simp; rfl))
            intro gb361 hg w45 hbox hb
            have HS0_ := (hb.cell (World.block_lt_of_cell? _ _ (hHeld.1))).trans (hHeld.1)
            have HS1_ := (hb.cell (World.block_lt_of_cell? _ _ (hHeld.2.1))).trans (hHeld.2.1)
            have HS2_ := (hb.cell (World.block_lt_of_cell? _ _ (hHeld.2.2.1))).trans (hHeld.2.2.1)
            have HS3_ := (hb.cell (World.block_lt_of_cell? _ _ (hHeld.2.2.2))).trans (hHeld.2.2.2)
            have BK361 := Aside0.mk (hbox)
            have GW361 := Aside0.mk ((Cz.gs hg : w.heap.size ≤ gb361))
            have GE361 := GW361
            have NB351_361 := Aside0.mk ((Cz.nl BK351 hg : gb351 ≠ gb361))
            have NB361_351 := Aside0.mk ((Cz.nr BK351 hg : gb361 ≠ gb351))
            replace HO355 := Cz.rb HO355 hb
            replace BK351 := Cz.bk BK351 hb
            replace HB := Cz.bs (w := w) hb
            clear hb hbox hg
            refine hK.out _ _ ⟨HS0_, HS1_, HS2_, HS3_⟩ (fun hHeld => ?_)
            clear hK K
            refine norm_ (a' := ?_) ?_ ?_
            rotate_left
            ·show Act.put _ (some 6) _ = _
             simp only [Act.put, Kx.sb, Kx.sz, Kx.ss, i64_w, i32_w]
             rfl
            refine last_ (i := 18) (N := none) #[true, true, true, true, true, true, true, true, true, true, true, true, true, true, true, true, true, true, true] rfl rfl (one_of HT_.out (by kernel_rfl)) (by decide) (fun K hK => ?_)
            have hs46 : w45.cell? ⟨gb361, 0, none⟩ = some (.int .i64 0) := (blk_cell BK361.out 0).trans rfl
            have hfs46 := blk_frozen BK361.out 0
            have hns46_0 := NB351_361.out
            have hms46_0 := NB361_351.out
            have hs47 : w45.cell? ⟨gb361, 1, none⟩ = some (.int .i64 0) := (blk_cell BK361.out 1).trans rfl
            have hfs47 := blk_frozen BK361.out 1
            have hns47_0 := NB351_361.out
            have hms47_0 := NB361_351.out
            have hs48 : w45.cell? ⟨gb361, 2, none⟩ = some (.int .i64 0) := (blk_cell BK361.out 2).trans rfl
            have hfs48 := blk_frozen BK361.out 2
            have hns48_0 := NB351_361.out
            have hms48_0 := NB361_351.out
            have hs49 : w45.cell? ⟨gb361, 3, none⟩ = some (.int .i64 0) := (blk_cell BK361.out 3).trans rfl
            have hfs49 := blk_frozen BK361.out 3
            have hns49_0 := NB351_361.out
            have hms49_0 := NB361_351.out
            have hs50 : w45.cell? ⟨gb361, 4, none⟩ = some (.slice none 0 0) := (blk_cell BK361.out 4).trans rfl
            have hfs50 := blk_frozen BK361.out 4
            have hns50_0 := NB351_361.out
            have hms50_0 := NB361_351.out
            have hs51 : w45.cell? ⟨gb361, 5, none⟩ = some (.slice none 0 0) := (blk_cell BK361.out 5).trans rfl
            have hfs51 := blk_frozen BK361.out 5
            have hns51_0 := NB351_361.out
            have hms51_0 := NB361_351.out
            refine skip_ (w1 := ?_) (by rfl) rfl ?_ ?_
            rotate_left
            ·go_simp
             rfl
            refine hK.out _ _ ?_
            clear hK K
            refine done_ (done_of HT_.out (by kernel_rfl)) ?_
            obtain ⟨i052, hi052, _, hsz52, _⟩ := info_parts info5
            obtain ⟨A52, hcut52, hA52, hC52⟩ := print_drop_of (P := Try.prog) (Value.int .u8) 0 23 5 .i64 Try.underlying23 hi052 hsz52 A0 c0 l0 9 (by omega) (of_decide_eq_true (by first | (with_reducible assumption) | assumption)) HC0.out
            have HR362 := Aside0.mk (Kd.C_of_reads (h1 := fun _ => rfl) (hA52 _ (Kd.reads_of_C HR0.out)))
            have HC362 := Aside0.mk hC52
            clear hA52 hC52 hi052 hsz52
            have p363 : 0 ≤ (4 : Int) := (by omega)
            have q363 : 4 < (t353.length : Int) := of_decide_eq_true (by first | (with_reducible assumption) | assumption)
            obtain ⟨ad363, e363, hx363_0⟩ := Kd.at_int (Kd.R_reads' HO355.out).2.2 4 p363 q363
            obtain rfl : ad357 = ad363 := (by injection e363)
            (try simp only [show (4 : Int).toNat = 4 from rfl, Nat.reduceMul, Nat.reduceEqDiff, Go.Addr.add, ↓reduceIte] at hx363_0)
            have qi363 : (4 < t353.length) = True := eq_true (by omega)
            (try rw [show ((4 : Int)).toNat = 4 from rfl] at hx363_0)
            have hn363_0 : ad357.block ≠ gb361 := Kd.own_blk (Kd.R_ne HO355.out BK361.out (by decide))
            have hn363_1 : ad357.block ≠ gb361 := Kd.own_blk (Kd.R_ne HO355.out BK361.out (by decide))
            have hn363_2 : ad357.block ≠ gb361 := Kd.own_blk (Kd.R_ne HO355.out BK361.out (by decide))
            have hn363_3 : ad357.block ≠ gb361 := Kd.own_blk (Kd.R_ne HO355.out BK361.out (by decide))
            have hn363_4 : ad357.block ≠ gb361 := Kd.own_blk (Kd.R_ne HO355.out BK361.out (by decide))
            have hn363_5 : ad357.block ≠ gb361 := Kd.own_blk (Kd.R_ne HO355.out BK361.out (by decide))
            replace hx363_0 := (cell_far (p := ⟨gb361, 0, none⟩) (by first | (rw [add_block]; exact hn363_0) | (show (Addr.add _ _).block ≠ _; rw [add_block]; exact hn363_0) | exact hn363_0) (.int .i64 (wrap64 (rd t353 0)))).trans hx363_0
            replace hx363_0 := (cell_far (p := ⟨gb361, 1, none⟩) (by first | (rw [add_block]; exact hn363_1) | (show (Addr.add _ _).block ≠ _; rw [add_block]; exact hn363_1) | exact hn363_1) (.int .i64 (wrap64 (rd t353 1)))).trans hx363_0
            replace hx363_0 := (cell_far (p := ⟨gb361, 2, none⟩) (by first | (rw [add_block]; exact hn363_2) | (show (Addr.add _ _).block ≠ _; rw [add_block]; exact hn363_2) | exact hn363_2) (.int .i64 (wrap64 (rd t353 2)))).trans hx363_0
            replace hx363_0 := (cell_far (p := ⟨gb361, 3, none⟩) (by first | (rw [add_block]; exact hn363_3) | (show (Addr.add _ _).block ≠ _; rw [add_block]; exact hn363_3) | exact hn363_3) (.int .i64 (wrap64 (rd t353 3)))).trans hx363_0
            replace hx363_0 := (cell_far (p := ⟨gb361, 4, none⟩) (by first | (rw [add_block]; exact hn363_4) | (show (Addr.add _ _).block ≠ _; rw [add_block]; exact hn363_4) | exact hn363_4) (.slice none 0 0)).trans hx363_0
            replace hx363_0 := (cell_far (p := ⟨gb361, 5, none⟩) (by first | (rw [add_block]; exact hn363_5) | (show (Addr.add _ _).block ≠ _; rw [add_block]; exact hn363_5) | exact hn363_5) (.slice none 0 0)).trans hx363_0
            clear hn363_0
            clear hn363_1
            clear hn363_2
            clear hn363_3
            clear hn363_4
            clear hn363_5
            replace p363 := eq_true p363
            replace q363 := eq_true q363
            have c13b0x : decide (((l0.length - 9 : Nat) : Int) < (wrap64 (rd t353 4))) = false := by have q_ := c13b0; rw [List.length_drop] at q_; exact q_
            (try clear hs46)
            (try clear hfs46)
            (try clear hns46_0)
            (try clear hms46_0)
            (try clear hs47)
            (try clear hfs47)
            (try clear hns47_0)
            (try clear hms47_0)
            (try clear hs48)
            (try clear hfs48)
            (try clear hns48_0)
            (try clear hms48_0)
            (try clear hs49)
            (try clear hfs49)
            (try clear hns49_0)
            (try clear hms49_0)
            (try clear hs50)
            (try clear hfs50)
            (try clear hns50_0)
            (try clear hms50_0)
            (try clear hs51)
            (try clear hfs51)
            (try clear hns51_0)
            (try clear hms51_0)
            (try clear hx357_0)
            (try clear hx358_0)
            (try clear hx359_0)
            (try clear hx360_0)
            (try clear hHeld)
            (try clear info5)
            have n0_ : Aside0 (Kd.R (Kd.int .u64) 44 ((((((w45.setCell ⟨gb361, 0, none⟩ (.int .i64 (wrap64 (rd t353 0)))).setCell ⟨gb361, 1, none⟩ (.int .i64 (wrap64 (rd t353 1)))).setCell ⟨gb361, 2, none⟩ (.int .i64 (wrap64 (rd t353 2)))).setCell ⟨gb361, 3, none⟩ (.int .i64 (wrap64 (rd t353 3)))).setCell ⟨gb361, 4, none⟩ (.slice none 0 0)).setCell ⟨gb361, 5, none⟩ (.slice none 0 0)) w.heap.size (fun _ => True) (.slice (some ad357) t353.length co44) t353) := ⟨by (with_reducible repeat (first | apply Kd.R_alloc | apply Kd.R_drewN | apply Kd.R_drew)); exact Kd.R_mono (Kd.R_far (p := ⟨gb361, 5, none⟩) (Kd.R_far (p := ⟨gb361, 4, none⟩) (Kd.R_far (p := ⟨gb361, 3, none⟩) (Kd.R_far (p := ⟨gb361, 2, none⟩) (Kd.R_far (p := ⟨gb361, 1, none⟩) (Kd.R_far (p := ⟨gb361, 0, none⟩) (Kd.R_types HO355.out BK361.out (by decide)) (fun _ hk => hk.2) (.int .i64 (wrap64 (rd t353 0)))) (fun _ hk => hk.2) (.int .i64 (wrap64 (rd t353 1)))) (fun _ hk => hk.2) (.int .i64 (wrap64 (rd t353 2)))) (fun _ hk => hk.2) (.int .i64 (wrap64 (rd t353 3)))) (fun _ hk => hk.2) (.slice none 0 0)) (fun _ hk => hk.2) (.slice none 0 0)) (fun _ hk => trivial)⟩
            have n1_ : Aside0 (((((((w45.setCell ⟨gb361, 0, none⟩ (.int .i64 (wrap64 (rd t353 0)))).setCell ⟨gb361, 1, none⟩ (.int .i64 (wrap64 (rd t353 1)))).setCell ⟨gb361, 2, none⟩ (.int .i64 (wrap64 (rd t353 2)))).setCell ⟨gb361, 3, none⟩ (.int .i64 (wrap64 (rd t353 3)))).setCell ⟨gb361, 4, none⟩ (.slice none 0 0)).setCell ⟨gb361, 5, none⟩ (.slice none 0 0)).heap[gb351]? = some (.cells #[.int .i64 0, .int .i64 0, .int .i64 0, .int .i64 0, .slice none 0 0, .slice none 0 0] 26 (0, 0))) := ⟨by (with_reducible repeat (first | refine blk_drewN ?_ _ | refine blk_drew ?_ | refine blk_alloc ?_ _)); refine blk_far ?_ NB351_361.out _; refine blk_far ?_ NB351_361.out _; refine blk_far ?_ NB351_361.out _; refine blk_far ?_ NB351_361.out _; refine blk_far ?_ NB351_361.out _; refine blk_far ?_ NB351_361.out _; (with_reducible repeat (first | refine blk_drewN ?_ _ | refine blk_drew ?_ | refine blk_alloc ?_ _)); exact BK351.out⟩
            have n2_ : Aside0 (((((((w45.setCell ⟨gb361, 0, none⟩ (.int .i64 (wrap64 (rd t353 0)))).setCell ⟨gb361, 1, none⟩ (.int .i64 (wrap64 (rd t353 1)))).setCell ⟨gb361, 2, none⟩ (.int .i64 (wrap64 (rd t353 2)))).setCell ⟨gb361, 3, none⟩ (.int .i64 (wrap64 (rd t353 3)))).setCell ⟨gb361, 4, none⟩ (.slice none 0 0)).setCell ⟨gb361, 5, none⟩ (.slice none 0 0)).heap[gb361]? = some (.cells #[.int .i64 (wrap64 (rd t353 0)), .int .i64 (wrap64 (rd t353 1)), .int .i64 (wrap64 (rd t353 2)), .int .i64 (wrap64 (rd t353 3)), .slice none 0 0, .slice none 0 0] 26 (0, 0))) := ⟨by (with_reducible repeat (first | refine blk_drewN ?_ _ | refine blk_drew ?_ | refine blk_alloc ?_ _)); apply Cz.a6; (with_reducible repeat (first | refine blk_drewN ?_ _ | refine blk_drew ?_ | refine blk_alloc ?_ _)); exact BK361.out⟩
            have n3_ : Aside0 (Below w.heap.size w ((((((w45.setCell ⟨gb361, 0, none⟩ (.int .i64 (wrap64 (rd t353 0)))).setCell ⟨gb361, 1, none⟩ (.int .i64 (wrap64 (rd t353 1)))).setCell ⟨gb361, 2, none⟩ (.int .i64 (wrap64 (rd t353 2)))).setCell ⟨gb361, 3, none⟩ (.int .i64 (wrap64 (rd t353 3)))).setCell ⟨gb361, 4, none⟩ (.slice none 0 0)).setCell ⟨gb361, 5, none⟩ (.slice none 0 0))) := ⟨by repeat (first | (with_reducible first | exact HB.out | apply below_alloc | apply pw_below_drewN | apply below_drew1 | refine below_set ?_ GE351.out | refine below_set ?_ GE361.out) | exact HB.out)⟩
            (try clear HO355)
            (try clear BK351)
            (try clear BK361)
            (try clear HB)
            generalize ((((((w45.setCell ⟨gb361, 0, none⟩ (.int .i64 (wrap64 (rd t353 0)))).setCell ⟨gb361, 1, none⟩ (.int .i64 (wrap64 (rd t353 1)))).setCell ⟨gb361, 2, none⟩ (.int .i64 (wrap64 (rd t353 2)))).setCell ⟨gb361, 3, none⟩ (.int .i64 (wrap64 (rd t353 3)))).setCell ⟨gb361, 4, none⟩ (.slice none 0 0)).setCell ⟨gb361, 5, none⟩ (.slice none 0 0)) = w53 at n0_ n1_ n2_ n3_ hx363_0 ⊢
            have HO355 := n0_
            have BK351 := n1_
            have BK361 := n2_
            have HB := n3_
            clear n0_ n1_ n2_ n3_
            try go_wp2
            replace HO355 := Aside0.mk (Kd.R_drew HO355.out)
            replace BK351 := Aside0.mk (blk_drew BK351.out)
            replace BK361 := Aside0.mk (blk_drew BK361.out)
            replace HB := Aside0.mk (below_drew1 HB.out)
            have p364 : 0 ≤ (4 : Int) := (by omega)
            have q364 : 4 < (t353.length : Int) := of_decide_eq_true (by first | (with_reducible assumption) | assumption)
            obtain ⟨ad364, e364, hx364_0⟩ := Kd.at_int (Kd.R_reads' HO355.out).2.2 4 p364 q364
            obtain rfl : ad357 = ad364 := (by injection e364)
            (try simp only [show (4 : Int).toNat = 4 from rfl, Nat.reduceMul, Nat.reduceEqDiff, Go.Addr.add, ↓reduceIte] at hx364_0)
            have qi364 : (4 < t353.length) = True := eq_true (by omega)
            (try rw [show ((4 : Int)).toNat = 4 from rfl] at hx364_0)
            replace p364 := eq_true p364
            replace q364 := eq_true q364
            obtain ⟨i055, hi055, _, hsz55, _⟩ := info_parts info5
            have hcap_ : ((rd t353 4) ≤ ((c0 - 9 : Nat) : Int)) = True := eq_true (by have h1_ := HC362.out; have h2_ : (rd t353 4) ≤ ((l0.drop 9).length : Int) := of_decide_eq_true (by first | (with_reducible assumption) | assumption); have h3_ : Int.toNat 9 = 9 := rfl; rw [h3_] at h1_; omega)
            obtain ⟨hcut55, hA55, hC55⟩ := print_take_of (P := Try.prog) (Value.int .u8) 0 23 5 .u64 Try.underlying23 hi055 hsz55 A52 (c0 - 9) (l0.drop 9) (rd t353 4) (of_decide_eq_true (by first | (with_reducible assumption) | assumption)) (of_decide_eq_true (by first | (with_reducible assumption) | assumption)) HC362.out
            have HR365 := Aside0.mk (Kd.C_of_reads (h1 := fun _ => rfl) (hA55 _ (Kd.reads_of_C HR362.out)))
            have HC365 := Aside0.mk hC55
            clear hA55 hC55 hi055 hsz55
            refine start_ (n := 10) (S := fun w' => w'.cell? ⟨gb361, 0, none⟩ = some (.int .i64 (wrap64 (rd t353 0))) ∧ w'.cell? ⟨gb361, 1, none⟩ = some (.int .i64 (wrap64 (rd t353 1))) ∧ w'.cell? ⟨gb361, 2, none⟩ = some (.int .i64 (wrap64 (rd t353 2))) ∧ w'.cell? ⟨gb361, 3, none⟩ = some (.int .i64 (wrap64 (rd t353 3))) ∧ w'.cell? ⟨gb361, 4, none⟩ = some (.slice none 0 0) ∧ w'.cell? ⟨gb361, 5, none⟩ = some (.slice none 0 0) ∧ w'.cell? ⟨ad357.block, ad357.off + 4, none⟩ = some (.int .u64 (rd t353 4))) (ds := [9]) #[false, false, false, false, false, false, false, false, false, false] (by kernel_rfl) rfl rfl ⟨(blk_cell BK361.out 0).trans rfl, (blk_cell BK361.out 1).trans rfl, (blk_cell BK361.out 2).trans rfl, (blk_cell BK361.out 3).trans rfl, (blk_cell BK361.out 4).trans rfl, (blk_cell BK361.out 5).trans rfl, hx364_0⟩ (fun hHeld => ?_); refine with_tabW waggonerref10_Read_p.tab8 waggonerref10_Read_p.bits8 (fun HT_ HW_ => ?_)
            generalize w53.drew = w54 at HO355 BK351 BK361 HB HR365 hx364_0 hHeld ⊢
            refine Cz.qP 0 49 HT_ ?_
            refine Cz.qP 2 51 HT_ ?_
            refine Cz.qP 3 52 HT_ ?_
            refine Cz.qP 4 53 HT_ ?_
            refine Cz.qT 1 50 HT_ HW_ hHeld ?_
            refine Cz.qT 5 54 HT_ HW_ hHeld ?_
            refine Cz.qP 6 55 HT_ ?_
            refine Cz.qO (N := some 56) 7 HT_ (fun K hK => ?_)
            refine Kd.R_append_rows_step (Kd.int .u8) (w0 := w) w.heap.size (by rfl) (.tmp 50) (.tmp 55) 23 5 (.int .u8 0) 1 rfl Try.underlying23 info5 rfl (by decide) (by omega) (.slice none 0 0) ([] : List Int) ((l0.drop 9).take ((rd t353 4) : Int).toNat) _ _ _ (fun _ => True) (fun _ => False) rfl rfl ?aO ?aR (fun _ _ h => h) (fun _ h => h.elim) ?aF ?aB ?aS ?aL ?_
            (case aR => have h_ := Kd.C_below HR365.out HB.out; rw [show ((l0.drop 9).take ((rd t353 4) : Int).toNat).length = (rd t353 4).toNat from (by rw [List.length_take]; have h2_ : (rd t353 4) ≤ ((l0.drop 9).length : Int) := of_decide_eq_true (by first | (with_reducible assumption) | assumption); omega)] at h_; exact h_)
            (case aB => exact (by repeat (first | (with_reducible first | exact HB.out | apply below_alloc | apply pw_below_drewN | apply below_drew1 | refine below_set ?_ GE351.out | refine below_set ?_ GE361.out) | exact HB.out)))
            (case aF => exact (fun _ _ => trivial))
            (case aO => exact ((Kd.R_nil _ _ _ _ (fun _ => True))))
            (case aS => exact (below_size (by repeat (first | (with_reducible first | exact HB.out | apply below_alloc | apply pw_below_drewN | apply below_drew1 | refine below_set ?_ GE351.out | refine below_set ?_ GE361.out) | exact HB.out))))
            (case aL => have := LMc31.out; have hlx_ := (show ((l0.drop 9).take ((rd t353 4) : Int).toNat).length = (rd t353 4).toNat from (by rw [List.length_take]; have h_ : ((rd t353 4) : Int) ≤ ((l0.drop 9).length : Int) := of_decide_eq_true (by first | (with_reducible assumption) | assumption); omega)); omega)
            intro v367 w56 ho hb hg hat
            have HN_ : True := trivial
            have HS6_ := cell_grown hg (hHeld.2.2.2.2.2.2) (by simp [Value.ownBlock])
            rw [← Ny366.out] at ho
            have HO368 := Aside0.mk (ho)
            replace BK351 := Cz.bw BK351 hg (by simp [Value.ownBlock])
            replace HO355 := Aside0.mk (Kd.R_grown (by (with_reducible repeat (first | apply Kd.R_alloc | apply Kd.R_drewN | apply Kd.R_drew)); exact HO355.out) hg (fun _ _ => by simp [Value.ownBlock]))
            replace BK361 := Cz.bw BK361 hg (by simp [Value.ownBlock])
            replace HB := Aside0.mk (hb)
            clear ho hb hg hat
            obtain ⟨Ao57, co57, eo57⟩ := Kd.R_slice HO368.out
            (first | subst eo57 | (injection eo57 with f1_ f2_ f3_; have f4_ := f1_.symm; have f5_ := f3_.symm; clear f1_ f2_ f3_; subst f4_; subst f5_))
            refine hK.out _ _ ⟨(blk_cell BK361.out 0).trans rfl, (blk_cell BK361.out 1).trans rfl, (blk_cell BK361.out 2).trans rfl, (blk_cell BK361.out 3).trans rfl, (blk_cell BK361.out 4).trans rfl, (blk_cell BK361.out 5).trans rfl, HS6_⟩ (fun hHeld => ?_)
            clear hK K
            refine norm_ (a' := ?_) ?_ ?_
            rotate_left
            ·show Act.put _ (some 56) _ = _
             simp only [Act.put, Kx.sb, Kx.sz, Kx.ss, i64_w, i32_w]
             rfl
            refine Cz.qP 8 57 HT_ ?_
            refine last_ (i := 9) (N := none) #[true, true, true, true, true, true, true, true, true, true] rfl rfl (one_of HT_.out (by kernel_rfl)) (by decide) (fun K hK => ?_)
            have hs58 : w56.cell? ⟨gb361, 4, none⟩ = some (.slice none 0 0) := (blk_cell BK361.out 4).trans rfl
            have hfs58 := blk_frozen BK361.out 4
            have hns58_0 := NB351_361.out
            have hms58_0 := NB361_351.out
            refine skip_ (w1 := ?_) (by rfl) rfl ?_ ?_
            rotate_left
            ·go_simp
             rfl
            refine hK.out _ _ ?_
            clear hK K
            refine done_ (done_of HT_.out (by kernel_rfl)) ?_
            have sBK : Aside0 ((w56.setCell ⟨gb361, 4, none⟩ (.slice Ao57 y366.length co57)).heap[gb361]? = some (.cells #[.int .i64 (wrap64 (rd t353 0)), .int .i64 (wrap64 (rd t353 1)), .int .i64 (wrap64 (rd t353 2)), .int .i64 (wrap64 (rd t353 3)), .slice Ao57 y366.length co57, .slice none 0 0] 26 (0, 0))) := ⟨by refine blk_put (cs := #[.int .i64 (wrap64 (rd t353 0)), .int .i64 (wrap64 (rd t353 1)), .int .i64 (wrap64 (rd t353 2)), .int .i64 (wrap64 (rd t353 3)), .slice none 0 0, .slice none 0 0]) ?_ 4 _ rfl; exact BK361.out⟩
            have sZK : Aside0 ((w56.setCell ⟨gb361, 4, none⟩ (.slice Ao57 y366.length co57)).heap[gb351]? = some (.cells #[.int .i64 0, .int .i64 0, .int .i64 0, .int .i64 0, .slice none 0 0, .slice none 0 0] 26 (0, 0))) := ⟨blk_far BK351.out (p := ⟨gb361, 4, none⟩) NB351_361.out _⟩
            have sHO : Aside0 (Kd.R (Kd.int .u8) 5 (w56.setCell ⟨gb361, 4, none⟩ (.slice Ao57 y366.length co57)) w.heap.size (fun _ => True) (.slice Ao57 y366.length co57) y366) := ⟨Kd.R_mono (Kd.R_far (p := ⟨gb361, 4, none⟩) (Kd.R_types HO368.out BK361.out (by decide)) (fun _ hk => hk.2) (.slice Ao57 y366.length co57)) (fun _ _ => trivial)⟩
            have sHN := Aside0.mk (show Kd.R (Kd.int .u64) _ (w56.setCell ⟨gb361, 4, none⟩ (.slice Ao57 y366.length co57)) _ _ _ _ from (Kd.R_far (p := ⟨gb361, 4, none⟩) (Kd.R_types HO355.out BK361.out (by decide)) (fun _ hk => hk.2) (.slice Ao57 y366.length co57)))
            have sHB : Aside0 (Below w.heap.size w (w56.setCell ⟨gb361, 4, none⟩ (.slice Ao57 y366.length co57))) := ⟨below_set HB.out GE361.out⟩
            generalize (w56.setCell ⟨gb361, 4, none⟩ (.slice Ao57 y366.length co57)) = ws at sBK sZK sHO sHN sHB ⊢
            (try clear hs20)
            (try clear hs21)
            (try clear hs22)
            (try clear hs23)
            (try clear hs24)
            (try clear hs25)
            (try clear hs46)
            (try clear hs47)
            (try clear hs48)
            (try clear hs49)
            (try clear hs50)
            (try clear hs51)
            (try clear hs58)
            (try clear hfs20)
            (try clear hfs21)
            (try clear hfs22)
            (try clear hfs23)
            (try clear hfs24)
            (try clear hfs25)
            (try clear hfs46)
            (try clear hfs47)
            (try clear hfs48)
            (try clear hfs49)
            (try clear hfs50)
            (try clear hfs51)
            (try clear hfs58)
            (try clear HS0_)
            (try clear HS1_)
            (try clear HS2_)
            (try clear HS3_)
            (try clear HS4_)
            (try clear HS5_)
            (try clear HS6_)
            (try clear HS7_)
            (try clear hHeld)
            (try clear HO368)
            (try clear BK361)
            (try clear BK351)
            (try clear HB)
            (try clear z28_0)
            (try clear z28_1)
            (try clear z28_2)
            (try clear z28_3)
            (try clear z28_4)
            (try clear z28_5)
            (try clear z4_0)
            (try clear z4_1)
            (try clear z4_2)
            (try clear z4_3)
            (try clear z4_4)
            (try clear z4_5)
            (try clear y28_0)
            (try clear y28_1)
            (try clear y28_2)
            (try clear y28_3)
            (try clear y28_4)
            (try clear y28_5)
            (try clear y4_0)
            (try clear y4_1)
            (try clear y4_2)
            (try clear y4_3)
            (try clear y4_4)
            (try clear y4_5)
            (try clear hx357_0)
            (try clear hx358_0)
            (try clear hx359_0)
            (try clear hx360_0)
            (try clear hx363_0)
            (try clear hx364_0)
            (try clear HO355)
            obtain ⟨adx, ex, hxn⟩ := Kd.at_int (Kd.R_reads' sHN.out).2.2 4 (by omega) (of_decide_eq_true (by first | (with_reducible assumption) | assumption))
            obtain rfl : ad357 = adx := (by injection ex)
            clear ex sHN
            (try simp only [show (4 : Int).toNat = 4 from rfl, Nat.reduceMul, Nat.reduceEqDiff, Go.Addr.add, ↓reduceIte] at hxn)
            by_cases c32 : (wrap64 (rd t353 0)) = 8
            ·rw [if_pos c32] at H
             have c32b0 : ((wrap64 (rd t353 0)) == 8) = true := beq_iff_eq.mpr c32
             have c32b1 : ((wrap64 (rd t353 0)) != 8) = false := bne_eq_false_iff_eq.mpr c32
             clear c32
             have c33b0 := eq_true (of_decide_eq_true (by first | (with_reducible assumption) | assumption) : 0 ≤ (rd t353 4))
             have c34b0 := eq_true (of_decide_eq_true (by first | (with_reducible assumption) | assumption) : (rd t353 4) ≤ ((l0.drop 9).length : Int))
             replace H := Option.bind_eq_some_iff.mp H
             obtain ⟨⟨t371, t372⟩, A350, H⟩ := H
             (try dsimp only at H)
             have A35 := Aside0.mk A350
             clear A350
             by_cases c36 : t372 = 0
             ·rw [if_pos c36] at H
              have c36b0 : (t372 == 0) = true := beq_iff_eq.mpr c36
              have c36b1 : (t372 != 0) = false := bne_eq_false_iff_eq.mpr c36
              clear c36
              replace H := Option.bind_eq_some_iff.mp H
              obtain ⟨⟨t375, t378⟩, A370, H⟩ := H
              (try dsimp only at H)
              have A37 := Aside0.mk A370
              clear A370
              by_cases c38 : t378 = 0
              ·rw [if_pos c38] at H
               have c38b0 : (t378 == 0) = true := beq_iff_eq.mpr c38
               have c38b1 : (t378 != 0) = false := bne_eq_false_iff_eq.mpr c38
               clear c38
               by_cases c39 : (strOfNums t375).toList = (strOfNums l0).toList
               ·rw [if_pos c39] at H
                have c39b0 : ((strOfNums t375).toList == (strOfNums l0).toList) = true := beq_iff_eq.mpr c39
                have c39b1 : ((strOfNums t375).toList != (strOfNums l0).toList) = false := bne_eq_false_iff_eq.mpr c39
                clear c39
                simp only [Option.some.injEq, Prod.mk.injEq] at H
                obtain ⟨rfl, rfl, rfl, rfl, rfl, rfl, rfl⟩ := H
                obtain ⟨i061, hi061, _, hsz61, _⟩ := info_parts info5
                obtain ⟨A61, hcut61, hA61, hC61⟩ := print_drop_of (P := Try.prog) (Value.int .u8) 0 23 5 .u64 Try.underlying23 hi061 hsz61 A52 (c0 - 9) (l0.drop 9) (rd t353 4) (of_decide_eq_true (by first | (with_reducible assumption) | assumption)) (of_decide_eq_true (by first | (with_reducible assumption) | assumption)) HC362.out
                have hr60 := Kd.C_of_reads (h1 := fun _ => rfl) (hA61 _ (Kd.reads_of_C HR362.out))
                clear hA61 hi061 hsz61
                obtain ⟨m60, hm60⟩ : ∃ m_, m_ = (l0.drop 9).drop ((rd t353 4) : Int).toNat := ⟨_, rfl⟩
                rw [← hm60] at hcut61 hr60 hC61
                rw [List.length_drop] at hcut61
                have hA28 := A35.out
                rw [← hm60] at hA28
                have HA28 := Aside0.mk hA28
                clear hA28
                have HR182 := Aside0.mk hr60
                have HC182 := Aside0.mk hC61
                clear hr60 hC61 hm60
                have hcza0 : ws.cell? ⟨gb361, 0, none⟩ = some (.int .i64 (wrap64 (rd t353 0))) := (blk_cell sBK.out 0).trans rfl
                have hcza1 : ws.cell? ⟨gb361, 1, none⟩ = some (.int .i64 (wrap64 (rd t353 1))) := (blk_cell sBK.out 1).trans rfl
                have hcza2 : ws.cell? ⟨gb361, 2, none⟩ = some (.int .i64 (wrap64 (rd t353 2))) := (blk_cell sBK.out 2).trans rfl
                have hcza3 : ws.cell? ⟨gb361, 3, none⟩ = some (.int .i64 (wrap64 (rd t353 3))) := (blk_cell sBK.out 3).trans rfl
                have hcza4 : ws.cell? ⟨gb361, 4, none⟩ = some (.slice Ao57 y366.length co57) := (blk_cell sBK.out 4).trans rfl
                have hcza5 : ws.cell? ⟨gb361, 5, none⟩ = some (.slice none 0 0) := (blk_cell sBK.out 5).trans rfl
                have hfza0 := blk_frozen sBK.out 0
                have hfza1 := blk_frozen sBK.out 1
                have hfza2 := blk_frozen sBK.out 2
                have hfza3 := blk_frozen sBK.out 3
                have hfza4 := blk_frozen sBK.out 4
                have hfza5 := blk_frozen sBK.out 5
                go_wp2_with (first | (go_at_call 28; refine (waggonerref07_Read.calls _ _ m60 t371 t372 _ (Kd.C_below HR182.out sHB.out) HC182.out HA28.out).mono ?_; rintro e wE ⟨v185, rfl, ho0, hb⟩; have sHL := Aside0.mk (Kd.S_lower (Kd.S_new' ho0 (Kd.R_lt sHO.out)) (below_size sHB.out)); clear ho0; replace sBK := Aside0.mk (blk_below sBK.out hb); replace sZK := Aside0.mk (blk_below sZK.out hb); replace sHO := Aside0.mk (Kd.R_below sHO.out hb); replace sHB := Aside0.mk (below_step sHB.out hb); clear hb; obtain ⟨AoL, coL, eoL⟩ := Kd.S_slice sHL.out; subst eoL; have hczb0 : wE.cell? ⟨gb361, 0, none⟩ = some (.int .i64 (wrap64 (rd t353 0))) := (blk_cell sBK.out 0).trans rfl; have hczb1 : wE.cell? ⟨gb361, 1, none⟩ = some (.int .i64 (wrap64 (rd t353 1))) := (blk_cell sBK.out 1).trans rfl; have hczb2 : wE.cell? ⟨gb361, 2, none⟩ = some (.int .i64 (wrap64 (rd t353 2))) := (blk_cell sBK.out 2).trans rfl; have hczb3 : wE.cell? ⟨gb361, 3, none⟩ = some (.int .i64 (wrap64 (rd t353 3))) := (blk_cell sBK.out 3).trans rfl; have hczb4 : wE.cell? ⟨gb361, 4, none⟩ = some (.slice Ao57 y366.length co57) := (blk_cell sBK.out 4).trans rfl; have hczb5 : wE.cell? ⟨gb361, 5, none⟩ = some (.slice none 0 0) := (blk_cell sBK.out 5).trans rfl; have hfzb0 := blk_frozen sBK.out 0; have hfzb1 := blk_frozen sBK.out 1; have hfzb2 := blk_frozen sBK.out 2; have hfzb3 := blk_frozen sBK.out 3; have hfzb4 := blk_frozen sBK.out 4; have hfzb5 := blk_frozen sBK.out 5) | (go_at_call 12; have tHO := Aside0.mk (Kd.R_mono (Kd.R_far (p := ⟨gb361, 5, none⟩) (Kd.R_types sHO.out sBK.out (by decide)) (fun _ hk => hk.2) (.slice AoL t371.length coL)) (fun _ (h_ : True ∧ _) => trivial)); have tHL := Aside0.mk (Kd.S_mono (Kd.S_far (p := ⟨gb361, 5, none⟩) (Kd.S_types sHL.out sBK.out (by decide)) (fun _ hk => hk.2) (.slice AoL t371.length coL)) (fun _ h_ => h_.1)); have tBK : Aside0 ((wE.setCell ⟨gb361, 5, none⟩ (.slice AoL t371.length coL)).heap[gb361]? = some (.cells #[.int .i64 (wrap64 (rd t353 0)), .int .i64 (wrap64 (rd t353 1)), .int .i64 (wrap64 (rd t353 2)), .int .i64 (wrap64 (rd t353 3)), .slice Ao57 y366.length co57, .slice AoL t371.length coL] 26 (0, 0))) := ⟨by refine blk_put (cs := #[.int .i64 (wrap64 (rd t353 0)), .int .i64 (wrap64 (rd t353 1)), .int .i64 (wrap64 (rd t353 2)), .int .i64 (wrap64 (rd t353 3)), .slice Ao57 y366.length co57, .slice none 0 0]) ?_ 5 _ rfl; exact sBK.out⟩; have tZK : Aside0 ((wE.setCell ⟨gb361, 5, none⟩ (.slice AoL t371.length coL)).heap[gb351]? = some (.cells #[.int .i64 0, .int .i64 0, .int .i64 0, .int .i64 0, .slice none 0 0, .slice none 0 0] 26 (0, 0))) := ⟨blk_far sZK.out (p := ⟨gb361, 5, none⟩) NB351_361.out _⟩; have tHB := Aside0.mk (show Below w.heap.size w (wE.setCell ⟨gb361, 5, none⟩ (.slice AoL t371.length coL)) from below_set sHB.out GE361.out); generalize wE.setCell ⟨gb361, 5, none⟩ (.slice AoL t371.length coL) = wF at tHO tHL tBK tZK tHB ⊢; clear sHO sHL sBK sZK sHB; have sHO := tHO; have sHL := tHL; have sBK := tBK; have sZK := tZK; have sHB := tHB; clear tHO tHL tBK tZK tHB; refine (waggonerref10_Write.calls (wrap64 (rd t353 0)) (wrap64 (rd t353 1)) (wrap64 (rd t353 2)) (wrap64 (rd t353 3)) _ _ y366 _ _ t371 t375 t378 _ (Kd.R_reads' sHO.out).2.2 (Kd.R_reads' sHO.out).2.1 (Kd.S_reads' sHL.out).2.2 (Kd.S_reads' sHL.out).2.1 A37.out).mono ?_; rintro e wC ⟨vw, rfl, hw0, hb⟩; have sHW := Aside0.mk (Kd.R_lower hw0 (below_size sHB.out)); clear hw0; replace sBK := Aside0.mk (blk_below sBK.out hb); replace sZK := Aside0.mk (blk_below sZK.out hb); replace sHO := Aside0.mk (Kd.R_below sHO.out hb); replace sHB := Aside0.mk (below_step sHB.out hb); replace sHL := Aside0.mk (Kd.S_below sHL.out hb); clear hb; obtain ⟨AoW, coW, eoW⟩ := Kd.R_slice sHW.out; subst eoW; have hczc0 : wC.cell? ⟨gb361, 0, none⟩ = some (.int .i64 (wrap64 (rd t353 0))) := (blk_cell sBK.out 0).trans rfl; have hczc1 : wC.cell? ⟨gb361, 1, none⟩ = some (.int .i64 (wrap64 (rd t353 1))) := (blk_cell sBK.out 1).trans rfl; have hczc2 : wC.cell? ⟨gb361, 2, none⟩ = some (.int .i64 (wrap64 (rd t353 2))) := (blk_cell sBK.out 2).trans rfl; have hczc3 : wC.cell? ⟨gb361, 3, none⟩ = some (.int .i64 (wrap64 (rd t353 3))) := (blk_cell sBK.out 3).trans rfl; have hczc4 : wC.cell? ⟨gb361, 4, none⟩ = some (.slice Ao57 y366.length co57) := (blk_cell sBK.out 4).trans rfl; have hczc5 : wC.cell? ⟨gb361, 5, none⟩ = some (.slice AoL t371.length coL) := (blk_cell sBK.out 5).trans rfl; have hfzc0 := blk_frozen sBK.out 0; have hfzc1 := blk_frozen sBK.out 1; have hfzc2 := blk_frozen sBK.out 2; have hfzc3 := blk_frozen sBK.out 3; have hfzc4 := blk_frozen sBK.out 4; have hfzc5 := blk_frozen sBK.out 5; obtain ⟨hcyc0, hcyc1, hcyc2, hcyc3, hcyc4, hcyc5, hfyc0, hfyc1, hfyc2, hfyc3, hfyc4, hfyc5⟩ := Cz.d6 sZK; have hcvw := own_string (P := Try.prog) Try.underlying23 Try.underlying5 Try.underlying9 (Kd.own_of_R sHW.out); have hcvl := Kd.C_string (P := Try.prog) (A := A0) (c := c0) Try.underlying23 Try.underlying5 Try.underlying9 (Kd.C_below HR0.out sHB.out)))
                refine bodyPost_ret (results_ct rfl _ _ gb351 26 #[.int .i64 (wrap64 (rd t353 0)), .int .i64 (wrap64 (rd t353 1)), .int .i64 (wrap64 (rd t353 2)), .int .i64 (wrap64 (rd t353 3)), .slice Ao57 y366.length co57, .slice AoL t371.length coL] (0, 0) _ rfl (by apply Cz.a6; exact sZK.out) Try.underlying26 rfl (by kernel_rfl)) rfl ?_
                exact ⟨.slice Ao57 y366.length co57, .slice AoL t371.length coL, rfl, Kd.R_mono (Kd.R_far (p := ⟨gb351, 5, none⟩) (Kd.R_far (p := ⟨gb351, 4, none⟩) (Kd.R_far (p := ⟨gb351, 3, none⟩) (Kd.R_far (p := ⟨gb351, 2, none⟩) (Kd.R_far (p := ⟨gb351, 1, none⟩) (Kd.R_far (p := ⟨gb351, 0, none⟩) (Kd.R_types sHO.out sZK.out (by decide)) (fun _ hk => hk.2) (.int .i64 (wrap64 (rd t353 0)))) (fun _ hk => hk.2) (.int .i64 (wrap64 (rd t353 1)))) (fun _ hk => hk.2) (.int .i64 (wrap64 (rd t353 2)))) (fun _ hk => hk.2) (.int .i64 (wrap64 (rd t353 3)))) (fun _ hk => hk.2) (.slice Ao57 y366.length co57)) (fun _ hk => hk.2) (.slice AoL t371.length coL)) (fun _ _ => trivial), Kd.S_mono (Kd.S_far (p := ⟨gb351, 5, none⟩) (Kd.S_far (p := ⟨gb351, 4, none⟩) (Kd.S_far (p := ⟨gb351, 3, none⟩) (Kd.S_far (p := ⟨gb351, 2, none⟩) (Kd.S_far (p := ⟨gb351, 1, none⟩) (Kd.S_far (p := ⟨gb351, 0, none⟩) (Kd.S_types sHL.out sZK.out (by decide)) (fun _ hk => hk.2) (.int .i64 (wrap64 (rd t353 0)))) (fun _ hk => hk.2) (.int .i64 (wrap64 (rd t353 1)))) (fun _ hk => hk.2) (.int .i64 (wrap64 (rd t353 2)))) (fun _ hk => hk.2) (.int .i64 (wrap64 (rd t353 3)))) (fun _ hk => hk.2) (.slice Ao57 y366.length co57)) (fun _ hk => hk.2) (.slice AoL t371.length coL)) (fun _ hk => hk.1.2), below_set (below_set (below_set (below_set (below_set (below_set (sHB.out) GE351.out) GE351.out) GE351.out) GE351.out) GE351.out) GE351.out⟩
               ·rw [if_neg c39] at H
                have c39b0 : ((strOfNums t375).toList == (strOfNums l0).toList) = false := beq_eq_false_iff_ne.mpr c39
                have c39b1 : ((strOfNums t375).toList != (strOfNums l0).toList) = true := bne_iff_ne.mpr c39
                simp only [Option.some.injEq, Prod.mk.injEq] at H
                obtain ⟨rfl, rfl, rfl, rfl, rfl, rfl, rfl⟩ := H
                obtain ⟨i093, hi093, _, hsz93, _⟩ := info_parts info5
                obtain ⟨A93, hcut93, hA93, hC93⟩ := print_drop_of (P := Try.prog) (Value.int .u8) 0 23 5 .u64 Try.underlying23 hi093 hsz93 A52 (c0 - 9) (l0.drop 9) (rd t353 4) (of_decide_eq_true (by first | (with_reducible assumption) | assumption)) (of_decide_eq_true (by first | (with_reducible assumption) | assumption)) HC362.out
                have hr60 := Kd.C_of_reads (h1 := fun _ => rfl) (hA93 _ (Kd.reads_of_C HR362.out))
                clear hA93 hi093 hsz93
                obtain ⟨m60, hm60⟩ : ∃ m_, m_ = (l0.drop 9).drop ((rd t353 4) : Int).toNat := ⟨_, rfl⟩
                rw [← hm60] at hcut93 hr60 hC93
                rw [List.length_drop] at hcut93
                have hA28 := A35.out
                rw [← hm60] at hA28
                have HA28 := Aside0.mk hA28
                clear hA28
                have HR182 := Aside0.mk hr60
                have HC182 := Aside0.mk hC93
                clear hr60 hC93 hm60
                have hcza0 : ws.cell? ⟨gb361, 0, none⟩ = some (.int .i64 (wrap64 (rd t353 0))) := (blk_cell sBK.out 0).trans rfl
                have hcza1 : ws.cell? ⟨gb361, 1, none⟩ = some (.int .i64 (wrap64 (rd t353 1))) := (blk_cell sBK.out 1).trans rfl
                have hcza2 : ws.cell? ⟨gb361, 2, none⟩ = some (.int .i64 (wrap64 (rd t353 2))) := (blk_cell sBK.out 2).trans rfl
                have hcza3 : ws.cell? ⟨gb361, 3, none⟩ = some (.int .i64 (wrap64 (rd t353 3))) := (blk_cell sBK.out 3).trans rfl
                have hcza4 : ws.cell? ⟨gb361, 4, none⟩ = some (.slice Ao57 y366.length co57) := (blk_cell sBK.out 4).trans rfl
                have hcza5 : ws.cell? ⟨gb361, 5, none⟩ = some (.slice none 0 0) := (blk_cell sBK.out 5).trans rfl
                have hfza0 := blk_frozen sBK.out 0
                have hfza1 := blk_frozen sBK.out 1
                have hfza2 := blk_frozen sBK.out 2
                have hfza3 := blk_frozen sBK.out 3
                have hfza4 := blk_frozen sBK.out 4
                have hfza5 := blk_frozen sBK.out 5
                go_wp2_with (first | (go_at_call 28; refine (waggonerref07_Read.calls _ _ m60 t371 t372 _ (Kd.C_below HR182.out sHB.out) HC182.out HA28.out).mono ?_; rintro e wE ⟨v185, rfl, ho0, hb⟩; have sHL := Aside0.mk (Kd.S_lower (Kd.S_new' ho0 (Kd.R_lt sHO.out)) (below_size sHB.out)); clear ho0; replace sBK := Aside0.mk (blk_below sBK.out hb); replace sZK := Aside0.mk (blk_below sZK.out hb); replace sHO := Aside0.mk (Kd.R_below sHO.out hb); replace sHB := Aside0.mk (below_step sHB.out hb); clear hb; obtain ⟨AoL, coL, eoL⟩ := Kd.S_slice sHL.out; subst eoL; have hczb0 : wE.cell? ⟨gb361, 0, none⟩ = some (.int .i64 (wrap64 (rd t353 0))) := (blk_cell sBK.out 0).trans rfl; have hczb1 : wE.cell? ⟨gb361, 1, none⟩ = some (.int .i64 (wrap64 (rd t353 1))) := (blk_cell sBK.out 1).trans rfl; have hczb2 : wE.cell? ⟨gb361, 2, none⟩ = some (.int .i64 (wrap64 (rd t353 2))) := (blk_cell sBK.out 2).trans rfl; have hczb3 : wE.cell? ⟨gb361, 3, none⟩ = some (.int .i64 (wrap64 (rd t353 3))) := (blk_cell sBK.out 3).trans rfl; have hczb4 : wE.cell? ⟨gb361, 4, none⟩ = some (.slice Ao57 y366.length co57) := (blk_cell sBK.out 4).trans rfl; have hczb5 : wE.cell? ⟨gb361, 5, none⟩ = some (.slice none 0 0) := (blk_cell sBK.out 5).trans rfl; have hfzb0 := blk_frozen sBK.out 0; have hfzb1 := blk_frozen sBK.out 1; have hfzb2 := blk_frozen sBK.out 2; have hfzb3 := blk_frozen sBK.out 3; have hfzb4 := blk_frozen sBK.out 4; have hfzb5 := blk_frozen sBK.out 5) | (go_at_call 12; have tHO := Aside0.mk (Kd.R_mono (Kd.R_far (p := ⟨gb361, 5, none⟩) (Kd.R_types sHO.out sBK.out (by decide)) (fun _ hk => hk.2) (.slice AoL t371.length coL)) (fun _ (h_ : True ∧ _) => trivial)); have tHL := Aside0.mk (Kd.S_mono (Kd.S_far (p := ⟨gb361, 5, none⟩) (Kd.S_types sHL.out sBK.out (by decide)) (fun _ hk => hk.2) (.slice AoL t371.length coL)) (fun _ h_ => h_.1)); have tBK : Aside0 ((wE.setCell ⟨gb361, 5, none⟩ (.slice AoL t371.length coL)).heap[gb361]? = some (.cells #[.int .i64 (wrap64 (rd t353 0)), .int .i64 (wrap64 (rd t353 1)), .int .i64 (wrap64 (rd t353 2)), .int .i64 (wrap64 (rd t353 3)), .slice Ao57 y366.length co57, .slice AoL t371.length coL] 26 (0, 0))) := ⟨by refine blk_put (cs := #[.int .i64 (wrap64 (rd t353 0)), .int .i64 (wrap64 (rd t353 1)), .int .i64 (wrap64 (rd t353 2)), .int .i64 (wrap64 (rd t353 3)), .slice Ao57 y366.length co57, .slice none 0 0]) ?_ 5 _ rfl; exact sBK.out⟩; have tZK : Aside0 ((wE.setCell ⟨gb361, 5, none⟩ (.slice AoL t371.length coL)).heap[gb351]? = some (.cells #[.int .i64 0, .int .i64 0, .int .i64 0, .int .i64 0, .slice none 0 0, .slice none 0 0] 26 (0, 0))) := ⟨blk_far sZK.out (p := ⟨gb361, 5, none⟩) NB351_361.out _⟩; have tHB := Aside0.mk (show Below w.heap.size w (wE.setCell ⟨gb361, 5, none⟩ (.slice AoL t371.length coL)) from below_set sHB.out GE361.out); generalize wE.setCell ⟨gb361, 5, none⟩ (.slice AoL t371.length coL) = wF at tHO tHL tBK tZK tHB ⊢; clear sHO sHL sBK sZK sHB; have sHO := tHO; have sHL := tHL; have sBK := tBK; have sZK := tZK; have sHB := tHB; clear tHO tHL tBK tZK tHB; refine (waggonerref10_Write.calls (wrap64 (rd t353 0)) (wrap64 (rd t353 1)) (wrap64 (rd t353 2)) (wrap64 (rd t353 3)) _ _ y366 _ _ t371 t375 t378 _ (Kd.R_reads' sHO.out).2.2 (Kd.R_reads' sHO.out).2.1 (Kd.S_reads' sHL.out).2.2 (Kd.S_reads' sHL.out).2.1 A37.out).mono ?_; rintro e wC ⟨vw, rfl, hw0, hb⟩; have sHW := Aside0.mk (Kd.R_lower hw0 (below_size sHB.out)); clear hw0; replace sBK := Aside0.mk (blk_below sBK.out hb); replace sZK := Aside0.mk (blk_below sZK.out hb); replace sHO := Aside0.mk (Kd.R_below sHO.out hb); replace sHB := Aside0.mk (below_step sHB.out hb); replace sHL := Aside0.mk (Kd.S_below sHL.out hb); clear hb; obtain ⟨AoW, coW, eoW⟩ := Kd.R_slice sHW.out; subst eoW; have hczc0 : wC.cell? ⟨gb361, 0, none⟩ = some (.int .i64 (wrap64 (rd t353 0))) := (blk_cell sBK.out 0).trans rfl; have hczc1 : wC.cell? ⟨gb361, 1, none⟩ = some (.int .i64 (wrap64 (rd t353 1))) := (blk_cell sBK.out 1).trans rfl; have hczc2 : wC.cell? ⟨gb361, 2, none⟩ = some (.int .i64 (wrap64 (rd t353 2))) := (blk_cell sBK.out 2).trans rfl; have hczc3 : wC.cell? ⟨gb361, 3, none⟩ = some (.int .i64 (wrap64 (rd t353 3))) := (blk_cell sBK.out 3).trans rfl; have hczc4 : wC.cell? ⟨gb361, 4, none⟩ = some (.slice Ao57 y366.length co57) := (blk_cell sBK.out 4).trans rfl; have hczc5 : wC.cell? ⟨gb361, 5, none⟩ = some (.slice AoL t371.length coL) := (blk_cell sBK.out 5).trans rfl; have hfzc0 := blk_frozen sBK.out 0; have hfzc1 := blk_frozen sBK.out 1; have hfzc2 := blk_frozen sBK.out 2; have hfzc3 := blk_frozen sBK.out 3; have hfzc4 := blk_frozen sBK.out 4; have hfzc5 := blk_frozen sBK.out 5; obtain ⟨hcyc0, hcyc1, hcyc2, hcyc3, hcyc4, hcyc5, hfyc0, hfyc1, hfyc2, hfyc3, hfyc4, hfyc5⟩ := Cz.d6 sZK; have hcvw := own_string (P := Try.prog) Try.underlying23 Try.underlying5 Try.underlying9 (Kd.own_of_R sHW.out); have hcvl := Kd.C_string (P := Try.prog) (A := A0) (c := c0) Try.underlying23 Try.underlying5 Try.underlying9 (Kd.C_below HR0.out sHB.out)))
                refine bodyPost_ret (results_ct rfl _ _ gb351 26 #[.int .i64 0, .int .i64 0, .int .i64 0, .int .i64 0, .slice none 0 0, .slice none 0 0] (0, 0) _ rfl (by apply Cz.a6; exact sZK.out) Try.underlying26 rfl (by kernel_rfl)) rfl ?_
                exact ⟨.slice none 0 0, .slice none 0 0, rfl, Kd.R_nil _ _ _ _ _, Kd.S_nil _ _ _ _ _, below_set (below_set (below_set (below_set (below_set (below_set (sHB.out) GE351.out) GE351.out) GE351.out) GE351.out) GE351.out) GE351.out⟩
              ·rw [if_neg c38] at H
               have c38b0 : (t378 == 0) = false := beq_eq_false_iff_ne.mpr c38
               have c38b1 : (t378 != 0) = true := bne_iff_ne.mpr c38
               simp only [Option.some.injEq, Prod.mk.injEq] at H
               obtain ⟨rfl, rfl, rfl, rfl, rfl, rfl, rfl⟩ := H
               obtain ⟨i0124, hi0124, _, hsz124, _⟩ := info_parts info5
               obtain ⟨A124, hcut124, hA124, hC124⟩ := print_drop_of (P := Try.prog) (Value.int .u8) 0 23 5 .u64 Try.underlying23 hi0124 hsz124 A52 (c0 - 9) (l0.drop 9) (rd t353 4) (of_decide_eq_true (by first | (with_reducible assumption) | assumption)) (of_decide_eq_true (by first | (with_reducible assumption) | assumption)) HC362.out
               have hr60 := Kd.C_of_reads (h1 := fun _ => rfl) (hA124 _ (Kd.reads_of_C HR362.out))
               clear hA124 hi0124 hsz124
               obtain ⟨m60, hm60⟩ : ∃ m_, m_ = (l0.drop 9).drop ((rd t353 4) : Int).toNat := ⟨_, rfl⟩
               rw [← hm60] at hcut124 hr60 hC124
               rw [List.length_drop] at hcut124
               have hA28 := A35.out
               rw [← hm60] at hA28
               have HA28 := Aside0.mk hA28
               clear hA28
               have HR182 := Aside0.mk hr60
               have HC182 := Aside0.mk hC124
               clear hr60 hC124 hm60
               have hcza0 : ws.cell? ⟨gb361, 0, none⟩ = some (.int .i64 (wrap64 (rd t353 0))) := (blk_cell sBK.out 0).trans rfl
               have hcza1 : ws.cell? ⟨gb361, 1, none⟩ = some (.int .i64 (wrap64 (rd t353 1))) := (blk_cell sBK.out 1).trans rfl
               have hcza2 : ws.cell? ⟨gb361, 2, none⟩ = some (.int .i64 (wrap64 (rd t353 2))) := (blk_cell sBK.out 2).trans rfl
               have hcza3 : ws.cell? ⟨gb361, 3, none⟩ = some (.int .i64 (wrap64 (rd t353 3))) := (blk_cell sBK.out 3).trans rfl
               have hcza4 : ws.cell? ⟨gb361, 4, none⟩ = some (.slice Ao57 y366.length co57) := (blk_cell sBK.out 4).trans rfl
               have hcza5 : ws.cell? ⟨gb361, 5, none⟩ = some (.slice none 0 0) := (blk_cell sBK.out 5).trans rfl
               have hfza0 := blk_frozen sBK.out 0
               have hfza1 := blk_frozen sBK.out 1
               have hfza2 := blk_frozen sBK.out 2
               have hfza3 := blk_frozen sBK.out 3
               have hfza4 := blk_frozen sBK.out 4
               have hfza5 := blk_frozen sBK.out 5
               go_wp2_with (first | (go_at_call 28; refine (waggonerref07_Read.calls _ _ m60 t371 t372 _ (Kd.C_below HR182.out sHB.out) HC182.out HA28.out).mono ?_; rintro e wE ⟨v185, rfl, ho0, hb⟩; have sHL := Aside0.mk (Kd.S_lower (Kd.S_new' ho0 (Kd.R_lt sHO.out)) (below_size sHB.out)); clear ho0; replace sBK := Aside0.mk (blk_below sBK.out hb); replace sZK := Aside0.mk (blk_below sZK.out hb); replace sHO := Aside0.mk (Kd.R_below sHO.out hb); replace sHB := Aside0.mk (below_step sHB.out hb); clear hb; obtain ⟨AoL, coL, eoL⟩ := Kd.S_slice sHL.out; subst eoL; have hczb0 : wE.cell? ⟨gb361, 0, none⟩ = some (.int .i64 (wrap64 (rd t353 0))) := (blk_cell sBK.out 0).trans rfl; have hczb1 : wE.cell? ⟨gb361, 1, none⟩ = some (.int .i64 (wrap64 (rd t353 1))) := (blk_cell sBK.out 1).trans rfl; have hczb2 : wE.cell? ⟨gb361, 2, none⟩ = some (.int .i64 (wrap64 (rd t353 2))) := (blk_cell sBK.out 2).trans rfl; have hczb3 : wE.cell? ⟨gb361, 3, none⟩ = some (.int .i64 (wrap64 (rd t353 3))) := (blk_cell sBK.out 3).trans rfl; have hczb4 : wE.cell? ⟨gb361, 4, none⟩ = some (.slice Ao57 y366.length co57) := (blk_cell sBK.out 4).trans rfl; have hczb5 : wE.cell? ⟨gb361, 5, none⟩ = some (.slice none 0 0) := (blk_cell sBK.out 5).trans rfl; have hfzb0 := blk_frozen sBK.out 0; have hfzb1 := blk_frozen sBK.out 1; have hfzb2 := blk_frozen sBK.out 2; have hfzb3 := blk_frozen sBK.out 3; have hfzb4 := blk_frozen sBK.out 4; have hfzb5 := blk_frozen sBK.out 5) | (go_at_call 12; have tHO := Aside0.mk (Kd.R_mono (Kd.R_far (p := ⟨gb361, 5, none⟩) (Kd.R_types sHO.out sBK.out (by decide)) (fun _ hk => hk.2) (.slice AoL t371.length coL)) (fun _ (h_ : True ∧ _) => trivial)); have tHL := Aside0.mk (Kd.S_mono (Kd.S_far (p := ⟨gb361, 5, none⟩) (Kd.S_types sHL.out sBK.out (by decide)) (fun _ hk => hk.2) (.slice AoL t371.length coL)) (fun _ h_ => h_.1)); have tBK : Aside0 ((wE.setCell ⟨gb361, 5, none⟩ (.slice AoL t371.length coL)).heap[gb361]? = some (.cells #[.int .i64 (wrap64 (rd t353 0)), .int .i64 (wrap64 (rd t353 1)), .int .i64 (wrap64 (rd t353 2)), .int .i64 (wrap64 (rd t353 3)), .slice Ao57 y366.length co57, .slice AoL t371.length coL] 26 (0, 0))) := ⟨by refine blk_put (cs := #[.int .i64 (wrap64 (rd t353 0)), .int .i64 (wrap64 (rd t353 1)), .int .i64 (wrap64 (rd t353 2)), .int .i64 (wrap64 (rd t353 3)), .slice Ao57 y366.length co57, .slice none 0 0]) ?_ 5 _ rfl; exact sBK.out⟩; have tZK : Aside0 ((wE.setCell ⟨gb361, 5, none⟩ (.slice AoL t371.length coL)).heap[gb351]? = some (.cells #[.int .i64 0, .int .i64 0, .int .i64 0, .int .i64 0, .slice none 0 0, .slice none 0 0] 26 (0, 0))) := ⟨blk_far sZK.out (p := ⟨gb361, 5, none⟩) NB351_361.out _⟩; have tHB := Aside0.mk (show Below w.heap.size w (wE.setCell ⟨gb361, 5, none⟩ (.slice AoL t371.length coL)) from below_set sHB.out GE361.out); generalize wE.setCell ⟨gb361, 5, none⟩ (.slice AoL t371.length coL) = wF at tHO tHL tBK tZK tHB ⊢; clear sHO sHL sBK sZK sHB; have sHO := tHO; have sHL := tHL; have sBK := tBK; have sZK := tZK; have sHB := tHB; clear tHO tHL tBK tZK tHB; refine (waggonerref10_Write.calls (wrap64 (rd t353 0)) (wrap64 (rd t353 1)) (wrap64 (rd t353 2)) (wrap64 (rd t353 3)) _ _ y366 _ _ t371 t375 t378 _ (Kd.R_reads' sHO.out).2.2 (Kd.R_reads' sHO.out).2.1 (Kd.S_reads' sHL.out).2.2 (Kd.S_reads' sHL.out).2.1 A37.out).mono ?_; rintro e wC ⟨vw, rfl, hw0, hb⟩; have sHW := Aside0.mk (Kd.R_lower hw0 (below_size sHB.out)); clear hw0; replace sBK := Aside0.mk (blk_below sBK.out hb); replace sZK := Aside0.mk (blk_below sZK.out hb); replace sHO := Aside0.mk (Kd.R_below sHO.out hb); replace sHB := Aside0.mk (below_step sHB.out hb); replace sHL := Aside0.mk (Kd.S_below sHL.out hb); clear hb; obtain ⟨AoW, coW, eoW⟩ := Kd.R_slice sHW.out; subst eoW; have hczc0 : wC.cell? ⟨gb361, 0, none⟩ = some (.int .i64 (wrap64 (rd t353 0))) := (blk_cell sBK.out 0).trans rfl; have hczc1 : wC.cell? ⟨gb361, 1, none⟩ = some (.int .i64 (wrap64 (rd t353 1))) := (blk_cell sBK.out 1).trans rfl; have hczc2 : wC.cell? ⟨gb361, 2, none⟩ = some (.int .i64 (wrap64 (rd t353 2))) := (blk_cell sBK.out 2).trans rfl; have hczc3 : wC.cell? ⟨gb361, 3, none⟩ = some (.int .i64 (wrap64 (rd t353 3))) := (blk_cell sBK.out 3).trans rfl; have hczc4 : wC.cell? ⟨gb361, 4, none⟩ = some (.slice Ao57 y366.length co57) := (blk_cell sBK.out 4).trans rfl; have hczc5 : wC.cell? ⟨gb361, 5, none⟩ = some (.slice AoL t371.length coL) := (blk_cell sBK.out 5).trans rfl; have hfzc0 := blk_frozen sBK.out 0; have hfzc1 := blk_frozen sBK.out 1; have hfzc2 := blk_frozen sBK.out 2; have hfzc3 := blk_frozen sBK.out 3; have hfzc4 := blk_frozen sBK.out 4; have hfzc5 := blk_frozen sBK.out 5; obtain ⟨hcyc0, hcyc1, hcyc2, hcyc3, hcyc4, hcyc5, hfyc0, hfyc1, hfyc2, hfyc3, hfyc4, hfyc5⟩ := Cz.d6 sZK; have hcvw := own_string (P := Try.prog) Try.underlying23 Try.underlying5 Try.underlying9 (Kd.own_of_R sHW.out); have hcvl := Kd.C_string (P := Try.prog) (A := A0) (c := c0) Try.underlying23 Try.underlying5 Try.underlying9 (Kd.C_below HR0.out sHB.out)))
               refine bodyPost_ret (results_ct rfl _ _ gb351 26 #[.int .i64 0, .int .i64 0, .int .i64 0, .int .i64 0, .slice none 0 0, .slice none 0 0] (0, 0) _ rfl (by apply Cz.a6; exact sZK.out) Try.underlying26 rfl (by kernel_rfl)) rfl ?_
               exact ⟨.slice none 0 0, .slice none 0 0, rfl, Kd.R_nil _ _ _ _ _, Kd.S_nil _ _ _ _ _, below_set (below_set (below_set (below_set (below_set (below_set (sHB.out) GE351.out) GE351.out) GE351.out) GE351.out) GE351.out) GE351.out⟩
             ·rw [if_neg c36] at H
              have c36b0 : (t372 == 0) = false := beq_eq_false_iff_ne.mpr c36
              have c36b1 : (t372 != 0) = true := bne_iff_ne.mpr c36
              simp only [Option.some.injEq, Prod.mk.injEq] at H
              obtain ⟨rfl, rfl, rfl, rfl, rfl, rfl, rfl⟩ := H
              obtain ⟨i0151, hi0151, _, hsz151, _⟩ := info_parts info5
              obtain ⟨A151, hcut151, hA151, hC151⟩ := print_drop_of (P := Try.prog) (Value.int .u8) 0 23 5 .u64 Try.underlying23 hi0151 hsz151 A52 (c0 - 9) (l0.drop 9) (rd t353 4) (of_decide_eq_true (by first | (with_reducible assumption) | assumption)) (of_decide_eq_true (by first | (with_reducible assumption) | assumption)) HC362.out
              have hr60 := Kd.C_of_reads (h1 := fun _ => rfl) (hA151 _ (Kd.reads_of_C HR362.out))
              clear hA151 hi0151 hsz151
              obtain ⟨m60, hm60⟩ : ∃ m_, m_ = (l0.drop 9).drop ((rd t353 4) : Int).toNat := ⟨_, rfl⟩
              rw [← hm60] at hcut151 hr60 hC151
              rw [List.length_drop] at hcut151
              have hA28 := A35.out
              rw [← hm60] at hA28
              have HA28 := Aside0.mk hA28
              clear hA28
              have HR182 := Aside0.mk hr60
              have HC182 := Aside0.mk hC151
              clear hr60 hC151 hm60
              have hcza0 : ws.cell? ⟨gb361, 0, none⟩ = some (.int .i64 (wrap64 (rd t353 0))) := (blk_cell sBK.out 0).trans rfl
              have hcza1 : ws.cell? ⟨gb361, 1, none⟩ = some (.int .i64 (wrap64 (rd t353 1))) := (blk_cell sBK.out 1).trans rfl
              have hcza2 : ws.cell? ⟨gb361, 2, none⟩ = some (.int .i64 (wrap64 (rd t353 2))) := (blk_cell sBK.out 2).trans rfl
              have hcza3 : ws.cell? ⟨gb361, 3, none⟩ = some (.int .i64 (wrap64 (rd t353 3))) := (blk_cell sBK.out 3).trans rfl
              have hcza4 : ws.cell? ⟨gb361, 4, none⟩ = some (.slice Ao57 y366.length co57) := (blk_cell sBK.out 4).trans rfl
              have hcza5 : ws.cell? ⟨gb361, 5, none⟩ = some (.slice none 0 0) := (blk_cell sBK.out 5).trans rfl
              have hfza0 := blk_frozen sBK.out 0
              have hfza1 := blk_frozen sBK.out 1
              have hfza2 := blk_frozen sBK.out 2
              have hfza3 := blk_frozen sBK.out 3
              have hfza4 := blk_frozen sBK.out 4
              have hfza5 := blk_frozen sBK.out 5
              go_wp2_with (first | (go_at_call 28; refine (waggonerref07_Read.calls _ _ m60 t371 t372 _ (Kd.C_below HR182.out sHB.out) HC182.out HA28.out).mono ?_; rintro e wE ⟨v185, rfl, ho0, hb⟩; have sHL := Aside0.mk (Kd.S_lower (Kd.S_new' ho0 (Kd.R_lt sHO.out)) (below_size sHB.out)); clear ho0; replace sBK := Aside0.mk (blk_below sBK.out hb); replace sZK := Aside0.mk (blk_below sZK.out hb); replace sHO := Aside0.mk (Kd.R_below sHO.out hb); replace sHB := Aside0.mk (below_step sHB.out hb); clear hb; obtain ⟨AoL, coL, eoL⟩ := Kd.S_slice sHL.out; subst eoL; have hczb0 : wE.cell? ⟨gb361, 0, none⟩ = some (.int .i64 (wrap64 (rd t353 0))) := (blk_cell sBK.out 0).trans rfl; have hczb1 : wE.cell? ⟨gb361, 1, none⟩ = some (.int .i64 (wrap64 (rd t353 1))) := (blk_cell sBK.out 1).trans rfl; have hczb2 : wE.cell? ⟨gb361, 2, none⟩ = some (.int .i64 (wrap64 (rd t353 2))) := (blk_cell sBK.out 2).trans rfl; have hczb3 : wE.cell? ⟨gb361, 3, none⟩ = some (.int .i64 (wrap64 (rd t353 3))) := (blk_cell sBK.out 3).trans rfl; have hczb4 : wE.cell? ⟨gb361, 4, none⟩ = some (.slice Ao57 y366.length co57) := (blk_cell sBK.out 4).trans rfl; have hczb5 : wE.cell? ⟨gb361, 5, none⟩ = some (.slice none 0 0) := (blk_cell sBK.out 5).trans rfl; have hfzb0 := blk_frozen sBK.out 0; have hfzb1 := blk_frozen sBK.out 1; have hfzb2 := blk_frozen sBK.out 2; have hfzb3 := blk_frozen sBK.out 3; have hfzb4 := blk_frozen sBK.out 4; have hfzb5 := blk_frozen sBK.out 5; obtain ⟨hcyb0, hcyb1, hcyb2, hcyb3, hcyb4, hcyb5, hfyb0, hfyb1, hfyb2, hfyb3, hfyb4, hfyb5⟩ := Cz.d6 sZK))
              refine bodyPost_ret (results_ct rfl _ _ gb351 26 #[.int .i64 0, .int .i64 0, .int .i64 0, .int .i64 0, .slice none 0 0, .slice none 0 0] (0, 0) _ rfl (by apply Cz.a6; exact sZK.out) Try.underlying26 rfl (by kernel_rfl)) rfl ?_
              exact ⟨.slice none 0 0, .slice none 0 0, rfl, Kd.R_nil _ _ _ _ _, Kd.S_nil _ _ _ _ _, below_set (below_set (below_set (below_set (below_set (below_set (sHB.out) GE351.out) GE351.out) GE351.out) GE351.out) GE351.out) GE351.out⟩
            ·rw [if_neg c32] at H
             have c32b0 : ((wrap64 (rd t353 0)) == 8) = false := beq_eq_false_iff_ne.mpr c32
             have c32b1 : ((wrap64 (rd t353 0)) != 8) = true := bne_iff_ne.mpr c32
             replace H := Option.bind_eq_some_iff.mp H
             obtain ⟨⟨t379, t382⟩, A1540, H⟩ := H
             (try dsimp only at H)
             have A154 := Aside0.mk A1540
             clear A1540
             by_cases c155 : t382 = 0
             ·rw [if_pos c155] at H
              have c155b0 : (t382 == 0) = true := beq_iff_eq.mpr c155
              have c155b1 : (t382 != 0) = false := bne_eq_false_iff_eq.mpr c155
              clear c155
              by_cases c156 : (strOfNums t379).toList = (strOfNums l0).toList
              ·rw [if_pos c156] at H
               have c156b0 : ((strOfNums t379).toList == (strOfNums l0).toList) = true := beq_iff_eq.mpr c156
               have c156b1 : ((strOfNums t379).toList != (strOfNums l0).toList) = false := bne_eq_false_iff_eq.mpr c156
               clear c156
               simp only [Option.some.injEq, Prod.mk.injEq] at H
               obtain ⟨rfl, rfl, rfl, rfl, rfl, rfl, rfl⟩ := H
               have hcza0 : ws.cell? ⟨gb361, 0, none⟩ = some (.int .i64 (wrap64 (rd t353 0))) := (blk_cell sBK.out 0).trans rfl
               have hcza1 : ws.cell? ⟨gb361, 1, none⟩ = some (.int .i64 (wrap64 (rd t353 1))) := (blk_cell sBK.out 1).trans rfl
               have hcza2 : ws.cell? ⟨gb361, 2, none⟩ = some (.int .i64 (wrap64 (rd t353 2))) := (blk_cell sBK.out 2).trans rfl
               have hcza3 : ws.cell? ⟨gb361, 3, none⟩ = some (.int .i64 (wrap64 (rd t353 3))) := (blk_cell sBK.out 3).trans rfl
               have hcza4 : ws.cell? ⟨gb361, 4, none⟩ = some (.slice Ao57 y366.length co57) := (blk_cell sBK.out 4).trans rfl
               have hcza5 : ws.cell? ⟨gb361, 5, none⟩ = some (.slice none 0 0) := (blk_cell sBK.out 5).trans rfl
               have hfza0 := blk_frozen sBK.out 0
               have hfza1 := blk_frozen sBK.out 1
               have hfza2 := blk_frozen sBK.out 2
               have hfza3 := blk_frozen sBK.out 3
               have hfza4 := blk_frozen sBK.out 4
               have hfza5 := blk_frozen sBK.out 5
               go_wp2_with (first | (go_at_call 12; refine (waggonerref10_Write.calls (wrap64 (rd t353 0)) (wrap64 (rd t353 1)) (wrap64 (rd t353 2)) (wrap64 (rd t353 3)) _ _ y366 none 0 ([] : List S39) t379 t382 _ (Kd.R_reads' sHO.out).2.2 (Kd.R_reads' sHO.out).2.1 (Kd.C_nil _ _) (Nat.le_refl _) A154.out).mono ?_; rintro e wC ⟨vw, rfl, hw0, hb⟩; have sHW := Aside0.mk (Kd.R_lower hw0 (below_size sHB.out)); clear hw0; replace sBK := Aside0.mk (blk_below sBK.out hb); replace sZK := Aside0.mk (blk_below sZK.out hb); replace sHO := Aside0.mk (Kd.R_below sHO.out hb); replace sHB := Aside0.mk (below_step sHB.out hb); clear hb; obtain ⟨AoW, coW, eoW⟩ := Kd.R_slice sHW.out; subst eoW; have hczc0 : wC.cell? ⟨gb361, 0, none⟩ = some (.int .i64 (wrap64 (rd t353 0))) := (blk_cell sBK.out 0).trans rfl; have hczc1 : wC.cell? ⟨gb361, 1, none⟩ = some (.int .i64 (wrap64 (rd t353 1))) := (blk_cell sBK.out 1).trans rfl; have hczc2 : wC.cell? ⟨gb361, 2, none⟩ = some (.int .i64 (wrap64 (rd t353 2))) := (blk_cell sBK.out 2).trans rfl; have hczc3 : wC.cell? ⟨gb361, 3, none⟩ = some (.int .i64 (wrap64 (rd t353 3))) := (blk_cell sBK.out 3).trans rfl; have hczc4 : wC.cell? ⟨gb361, 4, none⟩ = some (.slice Ao57 y366.length co57) := (blk_cell sBK.out 4).trans rfl; have hczc5 : wC.cell? ⟨gb361, 5, none⟩ = some (.slice none 0 0) := (blk_cell sBK.out 5).trans rfl; have hfzc0 := blk_frozen sBK.out 0; have hfzc1 := blk_frozen sBK.out 1; have hfzc2 := blk_frozen sBK.out 2; have hfzc3 := blk_frozen sBK.out 3; have hfzc4 := blk_frozen sBK.out 4; have hfzc5 := blk_frozen sBK.out 5; obtain ⟨hcyc0, hcyc1, hcyc2, hcyc3, hcyc4, hcyc5, hfyc0, hfyc1, hfyc2, hfyc3, hfyc4, hfyc5⟩ := Cz.d6 sZK; have hcvw := own_string (P := Try.prog) Try.underlying23 Try.underlying5 Try.underlying9 (Kd.own_of_R sHW.out); have hcvl := Kd.C_string (P := Try.prog) (A := A0) (c := c0) Try.underlying23 Try.underlying5 Try.underlying9 (Kd.C_below HR0.out sHB.out)))
               refine bodyPost_ret (results_ct rfl _ _ gb351 26 #[.int .i64 (wrap64 (rd t353 0)), .int .i64 (wrap64 (rd t353 1)), .int .i64 (wrap64 (rd t353 2)), .int .i64 (wrap64 (rd t353 3)), .slice Ao57 y366.length co57, .slice none 0 0] (0, 0) _ rfl (by apply Cz.a6; exact sZK.out) Try.underlying26 rfl (by kernel_rfl)) rfl ?_
               exact ⟨.slice Ao57 y366.length co57, .slice none 0 0, rfl, Kd.R_mono (Kd.R_far (p := ⟨gb351, 5, none⟩) (Kd.R_far (p := ⟨gb351, 4, none⟩) (Kd.R_far (p := ⟨gb351, 3, none⟩) (Kd.R_far (p := ⟨gb351, 2, none⟩) (Kd.R_far (p := ⟨gb351, 1, none⟩) (Kd.R_far (p := ⟨gb351, 0, none⟩) (Kd.R_types sHO.out sZK.out (by decide)) (fun _ hk => hk.2) (.int .i64 (wrap64 (rd t353 0)))) (fun _ hk => hk.2) (.int .i64 (wrap64 (rd t353 1)))) (fun _ hk => hk.2) (.int .i64 (wrap64 (rd t353 2)))) (fun _ hk => hk.2) (.int .i64 (wrap64 (rd t353 3)))) (fun _ hk => hk.2) (.slice Ao57 y366.length co57)) (fun _ hk => hk.2) (.slice none 0 0)) (fun _ _ => trivial), Kd.S_nil _ _ _ _ _, below_set (below_set (below_set (below_set (below_set (below_set (sHB.out) GE351.out) GE351.out) GE351.out) GE351.out) GE351.out) GE351.out⟩
              ·rw [if_neg c156] at H
               have c156b0 : ((strOfNums t379).toList == (strOfNums l0).toList) = false := beq_eq_false_iff_ne.mpr c156
               have c156b1 : ((strOfNums t379).toList != (strOfNums l0).toList) = true := bne_iff_ne.mpr c156
               simp only [Option.some.injEq, Prod.mk.injEq] at H
               obtain ⟨rfl, rfl, rfl, rfl, rfl, rfl, rfl⟩ := H
               have hcza0 : ws.cell? ⟨gb361, 0, none⟩ = some (.int .i64 (wrap64 (rd t353 0))) := (blk_cell sBK.out 0).trans rfl
               have hcza1 : ws.cell? ⟨gb361, 1, none⟩ = some (.int .i64 (wrap64 (rd t353 1))) := (blk_cell sBK.out 1).trans rfl
               have hcza2 : ws.cell? ⟨gb361, 2, none⟩ = some (.int .i64 (wrap64 (rd t353 2))) := (blk_cell sBK.out 2).trans rfl
               have hcza3 : ws.cell? ⟨gb361, 3, none⟩ = some (.int .i64 (wrap64 (rd t353 3))) := (blk_cell sBK.out 3).trans rfl
               have hcza4 : ws.cell? ⟨gb361, 4, none⟩ = some (.slice Ao57 y366.length co57) := (blk_cell sBK.out 4).trans rfl
               have hcza5 : ws.cell? ⟨gb361, 5, none⟩ = some (.slice none 0 0) := (blk_cell sBK.out 5).trans rfl
               have hfza0 := blk_frozen sBK.out 0
               have hfza1 := blk_frozen sBK.out 1
               have hfza2 := blk_frozen sBK.out 2
               have hfza3 := blk_frozen sBK.out 3
               have hfza4 := blk_frozen sBK.out 4
               have hfza5 := blk_frozen sBK.out 5
               go_wp2_with (first | (go_at_call 12; refine (waggonerref10_Write.calls (wrap64 (rd t353 0)) (wrap64 (rd t353 1)) (wrap64 (rd t353 2)) (wrap64 (rd t353 3)) _ _ y366 none 0 ([] : List S39) t379 t382 _ (Kd.R_reads' sHO.out).2.2 (Kd.R_reads' sHO.out).2.1 (Kd.C_nil _ _) (Nat.le_refl _) A154.out).mono ?_; rintro e wC ⟨vw, rfl, hw0, hb⟩; have sHW := Aside0.mk (Kd.R_lower hw0 (below_size sHB.out)); clear hw0; replace sBK := Aside0.mk (blk_below sBK.out hb); replace sZK := Aside0.mk (blk_below sZK.out hb); replace sHO := Aside0.mk (Kd.R_below sHO.out hb); replace sHB := Aside0.mk (below_step sHB.out hb); clear hb; obtain ⟨AoW, coW, eoW⟩ := Kd.R_slice sHW.out; subst eoW; have hczc0 : wC.cell? ⟨gb361, 0, none⟩ = some (.int .i64 (wrap64 (rd t353 0))) := (blk_cell sBK.out 0).trans rfl; have hczc1 : wC.cell? ⟨gb361, 1, none⟩ = some (.int .i64 (wrap64 (rd t353 1))) := (blk_cell sBK.out 1).trans rfl; have hczc2 : wC.cell? ⟨gb361, 2, none⟩ = some (.int .i64 (wrap64 (rd t353 2))) := (blk_cell sBK.out 2).trans rfl; have hczc3 : wC.cell? ⟨gb361, 3, none⟩ = some (.int .i64 (wrap64 (rd t353 3))) := (blk_cell sBK.out 3).trans rfl; have hczc4 : wC.cell? ⟨gb361, 4, none⟩ = some (.slice Ao57 y366.length co57) := (blk_cell sBK.out 4).trans rfl; have hczc5 : wC.cell? ⟨gb361, 5, none⟩ = some (.slice none 0 0) := (blk_cell sBK.out 5).trans rfl; have hfzc0 := blk_frozen sBK.out 0; have hfzc1 := blk_frozen sBK.out 1; have hfzc2 := blk_frozen sBK.out 2; have hfzc3 := blk_frozen sBK.out 3; have hfzc4 := blk_frozen sBK.out 4; have hfzc5 := blk_frozen sBK.out 5; obtain ⟨hcyc0, hcyc1, hcyc2, hcyc3, hcyc4, hcyc5, hfyc0, hfyc1, hfyc2, hfyc3, hfyc4, hfyc5⟩ := Cz.d6 sZK; have hcvw := own_string (P := Try.prog) Try.underlying23 Try.underlying5 Try.underlying9 (Kd.own_of_R sHW.out); have hcvl := Kd.C_string (P := Try.prog) (A := A0) (c := c0) Try.underlying23 Try.underlying5 Try.underlying9 (Kd.C_below HR0.out sHB.out)))
               refine bodyPost_ret (results_ct rfl _ _ gb351 26 #[.int .i64 0, .int .i64 0, .int .i64 0, .int .i64 0, .slice none 0 0, .slice none 0 0] (0, 0) _ rfl (by apply Cz.a6; exact sZK.out) Try.underlying26 rfl (by kernel_rfl)) rfl ?_
               exact ⟨.slice none 0 0, .slice none 0 0, rfl, Kd.R_nil _ _ _ _ _, Kd.S_nil _ _ _ _ _, below_set (below_set (below_set (below_set (below_set (below_set (sHB.out) GE351.out) GE351.out) GE351.out) GE351.out) GE351.out) GE351.out⟩
             ·rw [if_neg c155] at H
              have c155b0 : (t382 == 0) = false := beq_eq_false_iff_ne.mpr c155
              have c155b1 : (t382 != 0) = true := bne_iff_ne.mpr c155
              simp only [Option.some.injEq, Prod.mk.injEq] at H
              obtain ⟨rfl, rfl, rfl, rfl, rfl, rfl, rfl⟩ := H
              have hcza0 : ws.cell? ⟨gb361, 0, none⟩ = some (.int .i64 (wrap64 (rd t353 0))) := (blk_cell sBK.out 0).trans rfl
              have hcza1 : ws.cell? ⟨gb361, 1, none⟩ = some (.int .i64 (wrap64 (rd t353 1))) := (blk_cell sBK.out 1).trans rfl
              have hcza2 : ws.cell? ⟨gb361, 2, none⟩ = some (.int .i64 (wrap64 (rd t353 2))) := (blk_cell sBK.out 2).trans rfl
              have hcza3 : ws.cell? ⟨gb361, 3, none⟩ = some (.int .i64 (wrap64 (rd t353 3))) := (blk_cell sBK.out 3).trans rfl
              have hcza4 : ws.cell? ⟨gb361, 4, none⟩ = some (.slice Ao57 y366.length co57) := (blk_cell sBK.out 4).trans rfl
              have hcza5 : ws.cell? ⟨gb361, 5, none⟩ = some (.slice none 0 0) := (blk_cell sBK.out 5).trans rfl
              have hfza0 := blk_frozen sBK.out 0
              have hfza1 := blk_frozen sBK.out 1
              have hfza2 := blk_frozen sBK.out 2
              have hfza3 := blk_frozen sBK.out 3
              have hfza4 := blk_frozen sBK.out 4
              have hfza5 := blk_frozen sBK.out 5
              go_wp2_with (first | (go_at_call 12; refine (waggonerref10_Write.calls (wrap64 (rd t353 0)) (wrap64 (rd t353 1)) (wrap64 (rd t353 2)) (wrap64 (rd t353 3)) _ _ y366 none 0 ([] : List S39) t379 t382 _ (Kd.R_reads' sHO.out).2.2 (Kd.R_reads' sHO.out).2.1 (Kd.C_nil _ _) (Nat.le_refl _) A154.out).mono ?_; rintro e wC ⟨vw, rfl, hw0, hb⟩; have sHW := Aside0.mk (Kd.R_lower hw0 (below_size sHB.out)); clear hw0; replace sBK := Aside0.mk (blk_below sBK.out hb); replace sZK := Aside0.mk (blk_below sZK.out hb); replace sHO := Aside0.mk (Kd.R_below sHO.out hb); replace sHB := Aside0.mk (below_step sHB.out hb); clear hb; obtain ⟨AoW, coW, eoW⟩ := Kd.R_slice sHW.out; subst eoW; have hczc0 : wC.cell? ⟨gb361, 0, none⟩ = some (.int .i64 (wrap64 (rd t353 0))) := (blk_cell sBK.out 0).trans rfl; have hczc1 : wC.cell? ⟨gb361, 1, none⟩ = some (.int .i64 (wrap64 (rd t353 1))) := (blk_cell sBK.out 1).trans rfl; have hczc2 : wC.cell? ⟨gb361, 2, none⟩ = some (.int .i64 (wrap64 (rd t353 2))) := (blk_cell sBK.out 2).trans rfl; have hczc3 : wC.cell? ⟨gb361, 3, none⟩ = some (.int .i64 (wrap64 (rd t353 3))) := (blk_cell sBK.out 3).trans rfl; have hczc4 : wC.cell? ⟨gb361, 4, none⟩ = some (.slice Ao57 y366.length co57) := (blk_cell sBK.out 4).trans rfl; have hczc5 : wC.cell? ⟨gb361, 5, none⟩ = some (.slice none 0 0) := (blk_cell sBK.out 5).trans rfl; have hfzc0 := blk_frozen sBK.out 0; have hfzc1 := blk_frozen sBK.out 1; have hfzc2 := blk_frozen sBK.out 2; have hfzc3 := blk_frozen sBK.out 3; have hfzc4 := blk_frozen sBK.out 4; have hfzc5 := blk_frozen sBK.out 5; obtain ⟨hcyc0, hcyc1, hcyc2, hcyc3, hcyc4, hcyc5, hfyc0, hfyc1, hfyc2, hfyc3, hfyc4, hfyc5⟩ := Cz.d6 sZK; have hcvw := own_string (P := Try.prog) Try.underlying23 Try.underlying5 Try.underlying9 (Kd.own_of_R sHW.out); have hcvl := Kd.C_string (P := Try.prog) (A := A0) (c := c0) Try.underlying23 Try.underlying5 Try.underlying9 (Kd.C_below HR0.out sHB.out)))
              refine bodyPost_ret (results_ct rfl _ _ gb351 26 #[.int .i64 0, .int .i64 0, .int .i64 0, .int .i64 0, .slice none 0 0, .slice none 0 0] (0, 0) _ rfl (by apply Cz.a6; exact sZK.out) Try.underlying26 rfl (by kernel_rfl)) rfl ?_
              exact ⟨.slice none 0 0, .slice none 0 0, rfl, Kd.R_nil _ _ _ _ _, Kd.S_nil _ _ _ _ _, below_set (below_set (below_set (below_set (below_set (below_set (sHB.out) GE351.out) GE351.out) GE351.out) GE351.out) GE351.out) GE351.out⟩
           ·rw [if_neg c31] at H
            exact absurd H (by simp)
          ·rw [if_neg c30] at H
           exact absurd H (by simp)
         ·rw [if_neg c29] at H
          exact absurd H (by simp)
       ·rw [if_neg c12] at H
        exact absurd H (by simp)
      ·rw [if_neg c10] at H
       exact absurd H (by simp)
     ·rw [if_neg c9] at H
      exact absurd H (by simp)
    ·rw [if_neg c8] at H
     exact absurd H (by simp)
   ·rw [if_neg c7] at H
    exact absurd H (by simp)
  ·rw [if_neg c5] at H
   exact absurd H (by simp)
end Go.Proofs.Ytmgohkffphogdaa.PU
