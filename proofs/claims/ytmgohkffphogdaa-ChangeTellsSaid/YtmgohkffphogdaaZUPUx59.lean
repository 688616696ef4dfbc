/- Words and walks that this claim names, of those that the kit's print and programs of this workplace have printed. -/
import Derived.Test.YtmgohkffphogdaaZUCz
import Derived.Test.YtmgohkffphogdaaZUPUx15
import Derived.Test.YtmgohkffphogdaaZUPUx49
import Derived.Test.YtmgohkffphogdaaZUPUx57
namespace Go.Proofs.Ytmgohkffphogdaa.PU
open Go.Proofs.Ytmgohkffphogdaa Go.RowKit Go.Proofs.YtmgohkffphogdaaW.PrintWords Go.Proofs.YtmgohkffphogdaaW.PrintLast Go.Proofs.YtmgohkffphogdaaW.PrintMore
attribute [local go_sem] max2_int min2_int max_two min_two max_three min_three max_four min_four
set_option linter.unusedVariables false
set_option linter.unusedSimpArgs false
def waggonerref07_Write_p.l0 : Nat → List (S39) → List Int → Int → Option (List Int × Int)
 | 0, _, _, _ => none
 | k + 1, x0, x4, x5 => if x5 < (x0.length : Int) then (if 0 ≤ x5 then ((waggonerref07_Check.f ((rd_T39 x0 x5).f0) ((rd_T39 x0 x5).f1) ((rd_T39 x0 x5).f2) ((rd_T39 x0 x5).f3) ((rd_T39 x0 x5).f4)).bind fun t267 => (if t267 = true then ((waggonerref01_Pack.f (⟨#[98, 98, 98, 119]⟩ : ByteArray) (([IntKind.u64.wrap ((rd_T39 x0 x5).f0), IntKind.u64.wrap ((rd_T39 x0 x5).f1), IntKind.u64.wrap ((rd_T39 x0 x5).f2), IntKind.u64.wrap ((rd_T39 x0 x5).f3)] : List Int))).bind fun bt275 => (if x4.length + bt275.1.length < 140737488355328 then ((some (x4 ++ bt275.1 : List Int)).bind fun y279 => (if y279.length + ((rd_T39 x0 x5).f4).length < 140737488355328 then (waggonerref07_Write_p.l0 k x0 (y279 ++ ((rd_T39 x0 x5).f4)) (wrap64 (x5 + 1))) else (none))) else (none))) else (some (([] : List Int), 70)))) else (none)) else (some (x4, 0))
def waggonerref07_Write_p.f (k : Nat) (l0 : List (S39)) : Option (List Int × Int) := if (l0.length : Int) > 64 then (some (([] : List Int), 70)) else (waggonerref07_Write_p.l0 k l0 (([((l0.length : Int)) % 256] : List Int)) 0)
def waggonerref07_Write_p.T10 : Bool × List (List Nat × List Nat) := (true, [([], []), ([], []), ([0, 1], [0, 1]), ([2], [2]), ([3], [3]), ([4], [4]), ([], []), ([], []), ([6, 7], [6, 7]), ([8], [8]), ([9], [9]), ([10], [10]), ([], []), ([], []), ([12, 13], [12, 13]), ([14], [14]), ([15], [15]), ([16], [16]), ([], []), ([], []), ([18, 19], [18, 19]), ([20], [20]), ([21], [21]), ([22], [22]), ([5, 11, 17, 23], [5, 11, 17, 23]), ([24], [24]), ([25], [25]), ([26], [26]), ([26], [26]), ([27, 25, 0, 1, 2, 3, 4, 5, 6, 7, 8, 9, 10, 11, 12, 13, 14, 15, 16, 17, 18, 19, 20, 21, 22, 23, 24, 25, 26, 27], [27]), ([28, 29, 0, 1, 2, 3, 4, 5, 6, 7, 8, 9, 10, 11, 12, 13, 14, 15, 16, 17, 18, 19, 20, 21, 22, 23, 24, 25, 26, 27, 28, 29], [28])])
def waggonerref07_Write_p.B10 : List Nat := [0, 0, 3, 7, 15, 31, 0, 0, 192, 448, 960, 1984, 0, 0, 12288, 28672, 61440, 126976, 0, 0, 786432, 1835008, 3932160, 8126464, 16777215, 33554431, 67108863, 134217727, 134217727, 268435455, 1073741823]
theorem waggonerref07_Write_p.tab10 : rtab .any (opsOf Try.f23 10) = waggonerref07_Write_p.T10 := by kernel_rfl
theorem waggonerref07_Write_p.bits10 : waitsOk waggonerref07_Write_p.T10.2 waggonerref07_Write_p.B10 = true := by kernel_rfl
def waggonerref07_Write_p.T11 : Bool × List (List Nat × List Nat) := (true, [([], []), ([], []), ([0, 1], [0, 1]), ([], []), ([], []), ([3, 4], [3, 4]), ([5], [5]), ([6], [6]), ([2, 7, 2], [2, 7]), ([8, 8, 0, 1, 2, 3, 4, 5, 6, 7, 8], [0, 8])])
def waggonerref07_Write_p.B11 : List Nat := [0, 0, 3, 0, 0, 24, 56, 120, 255, 511]
theorem waggonerref07_Write_p.tab11 : rtab .any (opsOf Try.f23 11) = waggonerref07_Write_p.T11 := by kernel_rfl
theorem waggonerref07_Write_p.bits11 : waitsOk waggonerref07_Write_p.T11.2 waggonerref07_Write_p.B11 = true := by kernel_rfl
set_option maxHeartbeats 8000000 in
set_option maxRecDepth 100000 in
theorem waggonerref07_Write_p.calls (k : Nat) (A0 : Option Addr) (c0 : Nat) (l0 : List (S39)) (r1 : List Int) (r2 : Int) (w : World) (hr0 : Kd.C k39 w A0 l0.length l0) (hc0 : l0.length ≤ c0) (h : waggonerref07_Write_p.f k l0 = some (r1, r2)) :
  Calls Try.prog 23 #[.slice A0 l0.length c0] w fun e w' => ∃ v0_ : Value, e = .returned (.tuple #[v0_, .int .i64 r2]) ∧ Kd.R (Kd.int .u8) 5 w' w.heap.size (fun _ => True) v0_ r1 ∧ Below w.heap.size w w' := by
 have hu39 := Try.underlying39
 have HR0 := Aside0.mk hr0
 have HC0 := Aside0.mk hc0
 clear hr0 hc0
 have HB := Aside0.mk (Below.refl w.heap.size w)
 have H : (if (l0.length : Int) > 64 then (some (([] : List Int), 70)) else (waggonerref07_Write_p.l0 k l0 (([((l0.length : Int)) % 256] : List Int)) 0)) = some (r1, r2) := h
 clear h
 by_cases c2 : (l0.length : Int) > 64
 ·rw [if_pos c2] at H
  have c2b0 : decide (64 < (l0.length : Int)) = true := decide_eq_true c2
  have c2b1 : decide (64 < l0.length) = true := decide_eq_true (by omega)
  clear c2
  simp only [Option.some.injEq, Prod.mk.injEq] at H
  obtain ⟨rfl, rfl⟩ := H
  go_enter Try.func23, Try.ntmps23
  go_wp2
  go_ret2
  exact ⟨_, Cz.er, by first | exact Kd.R_nil _ _ _ _ _ | exact Kd.N_nil _ _ _ _ _ | exact Kd.V_nil _ _ _ _ _ | exact Kd.Q_nil _ _ _ _ _ | exact Kd.S_nil _ _ _ _ _, Cz.bl (w := w)⟩
 ·rw [if_neg c2] at H
  have c2b0 : decide (64 < (l0.length : Int)) = false := decide_eq_false c2
  have c2b1 : decide (64 < l0.length) = false := decide_eq_false (by omega)
  clear c2
  obtain ⟨y263, hy263⟩ : ∃ y_ : List Int, y_ = (([((l0.length : Int)) % 256] : List Int)) := ⟨_, rfl⟩
  replace H : (waggonerref07_Write_p.l0 k l0 y263 0) = some (r1, r2) := by first | (rw [hy263]; with_reducible exact H) | (have H2_ := (Option.bind_some _ _).symm.trans H; rw [hy263]; with_reducible exact H2_) | (have H2_ := (Option.bind_some _ _).symm.trans H; with_reducible exact H2_) | with_reducible exact H | (rw [hy263]; exact H) | exact H
  have Ny263 := Aside0.mk hy263
  clear hy263
  have H' := Aside0.mk H
  clear H
  go_enter Try.func23, Try.ntmps23
  go_wp2_with (first | ((with_reducible refine gate_dst (N := 15) rfl ?_); refine Kd.R_lit (Kd.int .u8) _ 5 ?hg (N := 15) ?hd (xs := ([((l0.length : Int)) % 256] : List Int)) (inner := [.int .u8 (((l0.length : Int)) % 256)]) (ok := fun _ => True) (okp := fun _ => True) ?hr ?hp (fun _ hk => hk) trivial (Below.refl _ _) (Nat.le_refl _) (by simp) ?_; (case hd => rfl); (case hg => rfl); (case hr => first | (go_simp; done) | (go_simp; rfl)); (case hp => exact (Reps.one (show Kd.M (Kd.int .u8) _ _ _ (((l0.length : Int)) % 256) [.int .u8 (((l0.length : Int)) % 256)] from rfl) (Reps.none _ _))); intro v264 w3 ho4 hb hg_ hnew_; clear hg_ hnew_; (first | rw [← Ny263.out] at ho4 | (simp only [Int.reduceToNat] at ho4; rw [← Ny263.out] at ho4)); have HO265 := Aside0.mk (Kd.R_lower ho4 (below_size (Cz.bl (w := w)))); replace HB := Cz.bs (w := w) hb; clear hb ho4))
  go_loopg [4, 5] k (fun kq v4 v5 w' => ∃ (x4_1 : List Int) (x5_1 : Int), v5 = .int .i64 x5_1 ∧ Aside0 (waggonerref07_Write_p.l0 kq l0 x4_1 x5_1 = some (r1, r2)) ∧ Aside0 (kq ≤ k) ∧ Aside0 (Kd.R (Kd.int .u8) 5 w' w.heap.size (fun _ => True) v4 x4_1) ∧ Aside0 (Below w.heap.size w w'))
  case atStart => exact ⟨(y263), (0), Cz.si, H', ⟨Nat.le_refl _⟩, ⟨by (with_reducible repeat (first | apply Kd.R_alloc | apply Kd.R_drewN | apply Kd.R_drew)); exact HO265.out⟩, ⟨Cz.bl (w := w)⟩⟩
  case round =>
   clear H'
   try clear c2
   try clear c2b0
   try clear c2b1
   try clear p2
   obtain ⟨x4_1, x5_1, rfl, HA, HK1, HO_4, HB⟩ := hrel
   cases gk with
   | zero => exact absurd HA.out (by simp [waggonerref07_Write_p.l0])
   | succ k1 =>
    have H := HA.out
    clear HA
    simp only [waggonerref07_Write_p.l0] at H
    by_cases c5 : x5_1 < (l0.length : Int)
    ·rw [if_pos c5] at H
     have c5b0 : decide (x5_1 < (l0.length : Int)) = true := decide_eq_true c5
     clear c5
     by_cases c6 : 0 ≤ x5_1
     ·rw [if_pos c6] at H
      have c6b0 : decide (0 ≤ x5_1) = true := decide_eq_true c6
      clear c6
      replace H := Option.bind_eq_some_iff.mp H
      obtain ⟨t267, A70, H⟩ := H
      (try dsimp only at H)
      have A7 := Aside0.mk A70
      clear A70
      by_cases c8 : t267 = true
      ·subst c8
       rw [if_pos rfl] at H
       obtain ⟨y272, hy272⟩ : ∃ y_ : List Int, y_ = (([IntKind.u64.wrap ((rd_T39 l0 x5_1).f0), IntKind.u64.wrap ((rd_T39 l0 x5_1).f1), IntKind.u64.wrap ((rd_T39 l0 x5_1).f2), IntKind.u64.wrap ((rd_T39 l0 x5_1).f3)] : List Int)) := ⟨_, rfl⟩
       replace H : ((waggonerref01_Pack.f (⟨#[98, 98, 98, 119]⟩ : ByteArray) y272).bind fun bt275 => (if x4_1.length + bt275.1.length < 140737488355328 then ((some (x4_1 ++ bt275.1 : List Int)).bind fun y279 => (if y279.length + ((rd_T39 l0 x5_1).f4).length < 140737488355328 then (waggonerref07_Write_p.l0 k1 l0 (y279 ++ ((rd_T39 l0 x5_1).f4)) (wrap64 (x5_1 + 1))) else (none))) else (none))) = some (r1, r2) := by first | (rw [hy272]; with_reducible exact H) | (have H2_ := (Option.bind_some _ _).symm.trans H; rw [hy272]; with_reducible exact H2_) | (have H2_ := (Option.bind_some _ _).symm.trans H; with_reducible exact H2_) | with_reducible exact H | (rw [hy272]; exact H) | exact H
       have Ny272 := Aside0.mk hy272
       clear hy272
       replace H := Option.bind_eq_some_iff.mp H
       obtain ⟨⟨t275, t276⟩, A90, H⟩ := H
       (try dsimp only at H)
       have A9 := Aside0.mk A90
       clear A90
       by_cases c10 : x4_1.length + t275.length < 140737488355328
       ·rw [if_pos c10] at H
        have LMc10 := Aside0.mk c10
        clear c10
        obtain ⟨y279, hy279⟩ : ∃ y_ : List Int, y_ = (x4_1 ++ t275) := ⟨_, rfl⟩
        replace H : (if y279.length + ((rd_T39 l0 x5_1).f4).length < 140737488355328 then (waggonerref07_Write_p.l0 k1 l0 (y279 ++ ((rd_T39 l0 x5_1).f4)) (wrap64 (x5_1 + 1))) else (none)) = some (r1, r2) := by first | (rw [hy279]; with_reducible exact H) | (have H2_ := (Option.bind_some _ _).symm.trans H; rw [hy279]; with_reducible exact H2_) | (have H2_ := (Option.bind_some _ _).symm.trans H; with_reducible exact H2_) | with_reducible exact H | (rw [hy279]; exact H) | exact H
        have Ny279 := Aside0.mk hy279
        clear hy279
        by_cases c11 : y279.length + ((rd_T39 l0 x5_1).f4).length < 140737488355328
        ·rw [if_pos c11] at H
         have LMc11 := Aside0.mk c11
         clear c11
         obtain ⟨y283, hy283⟩ : ∃ y_ : List Int, y_ = (y279 ++ ((rd_T39 l0 x5_1).f4)) := ⟨_, rfl⟩
         replace H : (waggonerref07_Write_p.l0 k1 l0 y283 (wrap64 (x5_1 + 1))) = some (r1, r2) := by first | (rw [hy283]; with_reducible exact H) | (have H2_ := (Option.bind_some _ _).symm.trans H; rw [hy283]; with_reducible exact H2_) | (have H2_ := (Option.bind_some _ _).symm.trans H; with_reducible exact H2_) | with_reducible exact H | (rw [hy283]; exact H) | exact H
         have Ny283 := Aside0.mk hy283
         clear hy283
         have H' := Aside0.mk H
         clear H
         have p266 : 0 ≤ (x5_1 : Int) := of_decide_eq_true (by first | (with_reducible assumption) | assumption)
         have q266 : x5_1 < (l0.length : Int) := of_decide_eq_true (by first | (with_reducible assumption) | assumption)
         obtain ⟨ad266, A266_4, c266_4, e266, hx266_0, hx266_1, hx266_2, hx266_3, hx266_4, hl266_4, hi266_4⟩ := at_T39 HR0.out x5_1 p266 q266
         cases e266
         replace hx266_0 := (HB.out.cell (World.block_lt_of_cell? w _ hx266_0)).trans hx266_0
         replace hx266_1 := (HB.out.cell (World.block_lt_of_cell? w _ hx266_1)).trans hx266_1
         replace hx266_2 := (HB.out.cell (World.block_lt_of_cell? w _ hx266_2)).trans hx266_2
         replace hx266_3 := (HB.out.cell (World.block_lt_of_cell? w _ hx266_3)).trans hx266_3
         replace hx266_4 := (HB.out.cell (World.block_lt_of_cell? w _ hx266_4)).trans hx266_4
         have HR266_4 := Aside0.mk hi266_4
         have HC266_4 := Aside0.mk hl266_4
         clear hi266_4 hl266_4
         replace p266 := eq_true p266
         replace q266 := eq_true q266
         try go_wp2_with (first | ((with_reducible refine gate_callee (f := 39) rfl ?_); refine Cz.gL (N := (some 26)) Try.func39 #[.agg #[.int .i64 ((rd_T39 l0 x5_1).f0), .int .i64 ((rd_T39 l0 x5_1).f1), .int .i64 ((rd_T39 l0 x5_1).f2), .int .i64 ((rd_T39 l0 x5_1).f3), .slice A266_4 ((rd_T39 l0 x5_1).f4).length c266_4]] ?_; (with_reducible refine (waggonerref07_Check.calls ((rd_T39 l0 x5_1).f0) ((rd_T39 l0 x5_1).f1) ((rd_T39 l0 x5_1).f2) ((rd_T39 l0 x5_1).f3) _ _ ((rd_T39 l0 x5_1).f4) true _ ?side1 ?side2 A7.out).mono ?_); (case side1 => exact Cz.cb HR266_4); (case side2 => exact HC266_4.out); rintro e w12 ⟨rfl, hb⟩; refine ⟨_, rfl, ?_⟩; replace HO_4 := Cz.rb HO_4 hb; replace HB := Cz.bs (w := w) hb; (try clear hb)))
         replace HO_4 := Aside0.mk (Kd.R_drew HO_4.out)
         replace HB := Aside0.mk (below_drew1 HB.out)
         have p268 : 0 ≤ (x5_1 : Int) := of_decide_eq_true (by first | (with_reducible assumption) | assumption)
         have q268 : x5_1 < (l0.length : Int) := of_decide_eq_true (by first | (with_reducible assumption) | assumption)
         obtain ⟨ad268, A268_4, c268_4, e268, hx268_0, hx268_1, hx268_2, hx268_3, hx268_4, hl268_4, hi268_4⟩ := at_T39 HR0.out x5_1 p268 q268
         have hw268_4 := hx268_4
         have hw268_3 := hx268_3
         have hw268_2 := hx268_2
         have hw268_1 := hx268_1
         have hw268_0 := hx268_0
         obtain rfl : ad266 = ad268 := (by injection e268)
         replace hx268_0 := (HB.out.cell (World.block_lt_of_cell? w _ hx268_0)).trans hx268_0
         replace hx268_1 := (HB.out.cell (World.block_lt_of_cell? w _ hx268_1)).trans hx268_1
         replace hx268_2 := (HB.out.cell (World.block_lt_of_cell? w _ hx268_2)).trans hx268_2
         replace hx268_3 := (HB.out.cell (World.block_lt_of_cell? w _ hx268_3)).trans hx268_3
         replace hx268_4 := (HB.out.cell (World.block_lt_of_cell? w _ hx268_4)).trans hx268_4
         have HR268_4 := Aside0.mk hi268_4
         have HC268_4 := Aside0.mk hl268_4
         clear hi268_4 hl268_4
         replace p268 := eq_true p268
         replace q268 := eq_true q268
         have p269 : 0 ≤ (x5_1 : Int) := of_decide_eq_true (by first | (with_reducible assumption) | assumption)
         have q269 : x5_1 < (l0.length : Int) := of_decide_eq_true (by first | (with_reducible assumption) | assumption)
         obtain ⟨ad269, A269_4, c269_4, e269, hx269_0, hx269_1, hx269_2, hx269_3, hx269_4, hl269_4, hi269_4⟩ := at_T39 HR0.out x5_1 p269 q269
         have hw269_4 := hx269_4
         have hw269_3 := hx269_3
         have hw269_2 := hx269_2
         have hw269_1 := hx269_1
         have hw269_0 := hx269_0
         obtain rfl : ad266 = ad269 := (by injection e269)
         replace hx269_0 := (HB.out.cell (World.block_lt_of_cell? w _ hx269_0)).trans hx269_0
         replace hx269_1 := (HB.out.cell (World.block_lt_of_cell? w _ hx269_1)).trans hx269_1
         replace hx269_2 := (HB.out.cell (World.block_lt_of_cell? w _ hx269_2)).trans hx269_2
         replace hx269_3 := (HB.out.cell (World.block_lt_of_cell? w _ hx269_3)).trans hx269_3
         replace hx269_4 := (HB.out.cell (World.block_lt_of_cell? w _ hx269_4)).trans hx269_4
         have HR269_4 := Aside0.mk hi269_4
         have HC269_4 := Aside0.mk hl269_4
         clear hi269_4 hl269_4
         replace p269 := eq_true p269
         replace q269 := eq_true q269
         have ea_ := Option.some.inj (hx268_4.symm.trans hx269_4)
         injection ea_ with ea_ en_ ec_
         subst ea_
         subst ec_
         clear en_
         have p270 : 0 ≤ (x5_1 : Int) := of_decide_eq_true (by first | (with_reducible assumption) | assumption)
         have q270 : x5_1 < (l0.length : Int) := of_decide_eq_true (by first | (with_reducible assumption) | assumption)
         obtain ⟨ad270, A270_4, c270_4, e270, hx270_0, hx270_1, hx270_2, hx270_3, hx270_4, hl270_4, hi270_4⟩ := at_T39 HR0.out x5_1 p270 q270
         have hw270_4 := hx270_4
         have hw270_3 := hx270_3
         have hw270_2 := hx270_2
         have hw270_1 := hx270_1
         have hw270_0 := hx270_0
         obtain rfl : ad266 = ad270 := (by injection e270)
         replace hx270_0 := (HB.out.cell (World.block_lt_of_cell? w _ hx270_0)).trans hx270_0
         replace hx270_1 := (HB.out.cell (World.block_lt_of_cell? w _ hx270_1)).trans hx270_1
         replace hx270_2 := (HB.out.cell (World.block_lt_of_cell? w _ hx270_2)).trans hx270_2
         replace hx270_3 := (HB.out.cell (World.block_lt_of_cell? w _ hx270_3)).trans hx270_3
         replace hx270_4 := (HB.out.cell (World.block_lt_of_cell? w _ hx270_4)).trans hx270_4
         have HR270_4 := Aside0.mk hi270_4
         have HC270_4 := Aside0.mk hl270_4
         clear hi270_4 hl270_4
         replace p270 := eq_true p270
         replace q270 := eq_true q270
         have ea_ := Option.some.inj (hx268_4.symm.trans hx270_4)
         injection ea_ with ea_ en_ ec_
         subst ea_
         subst ec_
         clear en_
         have p271 : 0 ≤ (x5_1 : Int) := of_decide_eq_true (by first | (with_reducible assumption) | assumption)
         have q271 : x5_1 < (l0.length : Int) := of_decide_eq_true (by first | (with_reducible assumption) | assumption)
         obtain ⟨ad271, A271_4, c271_4, e271, hx271_0, hx271_1, hx271_2, hx271_3, hx271_4, hl271_4, hi271_4⟩ := at_T39 HR0.out x5_1 p271 q271
         have hw271_4 := hx271_4
         have hw271_3 := hx271_3
         have hw271_2 := hx271_2
         have hw271_1 := hx271_1
         have hw271_0 := hx271_0
         obtain rfl : ad266 = ad271 := (by injection e271)
         replace hx271_0 := (HB.out.cell (World.block_lt_of_cell? w _ hx271_0)).trans hx271_0
         replace hx271_1 := (HB.out.cell (World.block_lt_of_cell? w _ hx271_1)).trans hx271_1
         replace hx271_2 := (HB.out.cell (World.block_lt_of_cell? w _ hx271_2)).trans hx271_2
         replace hx271_3 := (HB.out.cell (World.block_lt_of_cell? w _ hx271_3)).trans hx271_3
         replace hx271_4 := (HB.out.cell (World.block_lt_of_cell? w _ hx271_4)).trans hx271_4
         have HR271_4 := Aside0.mk hi271_4
         have HC271_4 := Aside0.mk hl271_4
         clear hi271_4 hl271_4
         replace p271 := eq_true p271
         replace q271 := eq_true q271
         have ea_ := Option.some.inj (hx268_4.symm.trans hx271_4)
         injection ea_ with ea_ en_ ec_
         subst ea_
         subst ec_
         clear en_
         refine start_ (n := 31) (S := fun w' => w'.cell? (ad266.add ((x5_1).toNat * 5)) = some (.int .i64 ((rd_T39 l0 x5_1).f0)) ∧ w'.cell? ⟨(ad266.add ((x5_1).toNat * 5)).block, (ad266.add ((x5_1).toNat * 5)).off + 1, none⟩ = some (.int .i64 ((rd_T39 l0 x5_1).f1)) ∧ w'.cell? ⟨(ad266.add ((x5_1).toNat * 5)).block, (ad266.add ((x5_1).toNat * 5)).off + 2, none⟩ = some (.int .i64 ((rd_T39 l0 x5_1).f2)) ∧ w'.cell? ⟨(ad266.add ((x5_1).toNat * 5)).block, (ad266.add ((x5_1).toNat * 5)).off + 3, none⟩ = some (.int .i64 ((rd_T39 l0 x5_1).f3)) ∧ w'.cell? ⟨(ad266.add ((x5_1).toNat * 5)).block, (ad266.add ((x5_1).toNat * 5)).off + 4, none⟩ = some (.slice A268_4 ((rd_T39 l0 x5_1).f4).length c268_4) ∧ w'.cell? (ad266.add ((x5_1).toNat * 5)) = some (.int .i64 ((rd_T39 l0 x5_1).f0)) ∧ w'.cell? ⟨(ad266.add ((x5_1).toNat * 5)).block, (ad266.add ((x5_1).toNat * 5)).off + 1, none⟩ = some (.int .i64 ((rd_T39 l0 x5_1).f1)) ∧ w'.cell? ⟨(ad266.add ((x5_1).toNat * 5)).block, (ad266.add ((x5_1).toNat * 5)).off + 2, none⟩ = some (.int .i64 ((rd_T39 l0 x5_1).f2)) ∧ w'.cell? ⟨(ad266.add ((x5_1).toNat * 5)).block, (ad266.add ((x5_1).toNat * 5)).off + 3, none⟩ = some (.int .i64 ((rd_T39 l0 x5_1).f3)) ∧ w'.cell? ⟨(ad266.add ((x5_1).toNat * 5)).block, (ad266.add ((x5_1).toNat * 5)).off + 4, none⟩ = some (.slice A268_4 ((rd_T39 l0 x5_1).f4).length c268_4) ∧ w'.cell? (ad266.add ((x5_1).toNat * 5)) = some (.int .i64 ((rd_T39 l0 x5_1).f0)) ∧ w'.cell? ⟨(ad266.add ((x5_1).toNat * 5)).block, (ad266.add ((x5_1).toNat * 5)).off + 1, none⟩ = some (.int .i64 ((rd_T39 l0 x5_1).f1)) ∧ w'.cell? ⟨(ad266.add ((x5_1).toNat * 5)).block, (ad266.add ((x5_1).toNat * 5)).off + 2, none⟩ = some (.int .i64 ((rd_T39 l0 x5_1).f2)) ∧ w'.cell? ⟨(ad266.add ((x5_1).toNat * 5)).block, (ad266.add ((x5_1).toNat * 5)).off + 3, none⟩ = some (.int .i64 ((rd_T39 l0 x5_1).f3)) ∧ w'.cell? ⟨(ad266.add ((x5_1).toNat * 5)).block, (ad266.add ((x5_1).toNat * 5)).off + 4, none⟩ = some (.slice A268_4 ((rd_T39 l0 x5_1).f4).length c268_4) ∧ w'.cell? (ad266.add ((x5_1).toNat * 5)) = some (.int .i64 ((rd_T39 l0 x5_1).f0)) ∧ w'.cell? ⟨(ad266.add ((x5_1).toNat * 5)).block, (ad266.add ((x5_1).toNat * 5)).off + 1, none⟩ = some (.int .i64 ((rd_T39 l0 x5_1).f1)) ∧ w'.cell? ⟨(ad266.add ((x5_1).toNat * 5)).block, (ad266.add ((x5_1).toNat * 5)).off + 2, none⟩ = some (.int .i64 ((rd_T39 l0 x5_1).f2)) ∧ w'.cell? ⟨(ad266.add ((x5_1).toNat * 5)).block, (ad266.add ((x5_1).toNat * 5)).off + 3, none⟩ = some (.int .i64 ((rd_T39 l0 x5_1).f3)) ∧ w'.cell? ⟨(ad266.add ((x5_1).toNat * 5)).block, (ad266.add ((x5_1).toNat * 5)).off + 4, none⟩ = some (.slice A268_4 ((rd_T39 l0 x5_1).f4).length c268_4)) (ds := []) #[false, false, false, false, false, false, false, false, false, false, false, false, false, false, false, false, false, false, false, false, false, false, false, false, false, false, false, false, false, false, false] (by kernel_rfl) rfl rfl ⟨((HB.out.cell (World.block_lt_of_cell? w _ hw268_0)).trans hw268_0), ((HB.out.cell (World.block_lt_of_cell? w _ hw268_1)).trans hw268_1), ((HB.out.cell (World.block_lt_of_cell? w _ hw268_2)).trans hw268_2), ((HB.out.cell (World.block_lt_of_cell? w _ hw268_3)).trans hw268_3), ((HB.out.cell (World.block_lt_of_cell? w _ hw268_4)).trans hw268_4), ((HB.out.cell (World.block_lt_of_cell? w _ hw269_0)).trans hw269_0), ((HB.out.cell (World.block_lt_of_cell? w _ hw269_1)).trans hw269_1), ((HB.out.cell (World.block_lt_of_cell? w _ hw269_2)).trans hw269_2), ((HB.out.cell (World.block_lt_of_cell? w _ hw269_3)).trans hw269_3), ((HB.out.cell (World.block_lt_of_cell? w _ hw269_4)).trans hw269_4), ((HB.out.cell (World.block_lt_of_cell? w _ hw270_0)).trans hw270_0), ((HB.out.cell (World.block_lt_of_cell? w _ hw270_1)).trans hw270_1), ((HB.out.cell (World.block_lt_of_cell? w _ hw270_2)).trans hw270_2), ((HB.out.cell (World.block_lt_of_cell? w _ hw270_3)).trans hw270_3), ((HB.out.cell (World.block_lt_of_cell? w _ hw270_4)).trans hw270_4), ((HB.out.cell (World.block_lt_of_cell? w _ hw271_0)).trans hw271_0), ((HB.out.cell (World.block_lt_of_cell? w _ hw271_1)).trans hw271_1), ((HB.out.cell (World.block_lt_of_cell? w _ hw271_2)).trans hw271_2), ((HB.out.cell (World.block_lt_of_cell? w _ hw271_3)).trans hw271_3), ((HB.out.cell (World.block_lt_of_cell? w _ hw271_4)).trans hw271_4)⟩ (fun hHeld => ?_); refine with_tabW waggonerref07_Write_p.tab10 waggonerref07_Write_p.bits10 (fun HT_ HW_ => ?_)
         generalize w12.drew = w13 at HO_4 HB HR268_4 HR269_4 HR270_4 HR271_4 hx268_0 hx268_1 hx268_2 hx268_3 hx268_4 hx269_0 hx269_1 hx269_2 hx269_3 hx269_4 hx270_0 hx270_1 hx270_2 hx270_3 hx270_4 hx271_0 hx271_1 hx271_2 hx271_3 hx271_4 hHeld ⊢
         refine Cz.qP 0 30 HT_ ?_
         refine Cz.qP 1 31 HT_ ?_
         refine Cz.qP 2 32 HT_ ?_
         refine Cz.qP 3 33 HT_ ?_
         refine Cz.qP 6 36 HT_ ?_
         refine Cz.qP 7 37 HT_ ?_
         refine Cz.qP 8 38 HT_ ?_
         refine Cz.qP 9 39 HT_ ?_
         refine Cz.qP 12 42 HT_ ?_
         refine Cz.qP 13 43 HT_ ?_
         refine Cz.qP 14 44 HT_ ?_
         refine Cz.qP 15 45 HT_ ?_
         refine Cz.qP 18 48 HT_ ?_
         refine Cz.qP 19 49 HT_ ?_
         refine Cz.qP 20 50 HT_ ?_
         refine Cz.qP 21 51 HT_ ?_
         refine Cz.qT 4 34 HT_ HW_ hHeld ?_
         refine Cz.qP 5 35 HT_ ?_
         refine Cz.qT 10 40 HT_ HW_ hHeld ?_
         refine Cz.qP 11 41 HT_ ?_
         refine Cz.qT 16 46 HT_ HW_ hHeld ?_
         refine Cz.qP 17 47 HT_ ?_
         refine Cz.qT 22 52 HT_ HW_ hHeld ?_
         refine Cz.qP 23 53 HT_ ?_
         refine Cz.qO (N := some 54) 24 HT_ (fun K hK => ?_)
         refine Kd.R_lit_step (Kd.int .u64) _ 44 ?hg (N := 54) ?hd (xs := ([IntKind.u64.wrap ((rd_T39 l0 x5_1).f0), IntKind.u64.wrap ((rd_T39 l0 x5_1).f1), IntKind.u64.wrap ((rd_T39 l0 x5_1).f2), IntKind.u64.wrap ((rd_T39 l0 x5_1).f3)] : List Int)) (inner := [.int .u64 (IntKind.u64.wrap ((rd_T39 l0 x5_1).f0)), .int .u64 (IntKind.u64.wrap ((rd_T39 l0 x5_1).f1)), .int .u64 (IntKind.u64.wrap ((rd_T39 l0 x5_1).f2)), .int .u64 (IntKind.u64.wrap ((rd_T39 l0 x5_1).f3))]) (ok := fun _ => True) (okp := fun _ => True) ?hr ?hp (fun _ hk => hk) trivial (Below.refl _ _) (Nat.le_refl _) (by simp) ?_; (case hd => rfl); (case hg => rfl); (case hr => first | (go_simp; done) | (go_simp; rfl)); (case hp => exact (Reps.one (show Kd.M (Kd.int .u64) _ _ _ (IntKind.u64.wrap ((rd_T39 l0 x5_1).f0)) [.int .u64 (IntKind.u64.wrap ((rd_T39 l0 x5_1).f0))] from rfl) (Reps.one (show Kd.M (Kd.int .u64) _ _ _ (IntKind.u64.wrap ((rd_T39 l0 x5_1).f1)) [.int .u64 (IntKind.u64.wrap ((rd_T39 l0 x5_1).f1))] from rfl) (Reps.one (show Kd.M (Kd.int .u64) _ _ _ (IntKind.u64.wrap ((rd_T39 l0 x5_1).f2)) [.int .u64 (IntKind.u64.wrap ((rd_T39 l0 x5_1).f2))] from rfl) (Reps.one (show Kd.M (Kd.int .u64) _ _ _ (IntKind.u64.wrap ((rd_T39 l0 x5_1).f3)) [.int .u64 (IntKind.u64.wrap ((rd_T39 l0 x5_1).f3))] from rfl) (Reps.none _ _))))))
         intro v273 w14 ho15 hb hg_ hnew_
         clear hg_ hnew_
         (first | rw [← Ny272.out] at ho15 | (simp only [Int.reduceToNat] at ho15; rw [← Ny272.out] at ho15))
         have HO274 := Aside0.mk (Kd.R_lower ho15 (below_size (Cz.bl (w := w))))
         replace HO_4 := Cz.rb HO_4 hb
         replace HB := Cz.bs (w := w) hb
         clear hb ho15
         obtain ⟨Ao16, co16, eo16⟩ := Kd.R_slice HO274.out
         (first | subst eo16 | (injection eo16 with f1_ f2_ f3_; have f4_ := f1_.symm; have f5_ := f3_.symm; clear f1_ f2_ f3_; subst f4_; subst f5_))
         refine hK.out _ _ ⟨((HB.out.cell (World.block_lt_of_cell? w _ hw268_0)).trans hw268_0), ((HB.out.cell (World.block_lt_of_cell? w _ hw268_1)).trans hw268_1), ((HB.out.cell (World.block_lt_of_cell? w _ hw268_2)).trans hw268_2), ((HB.out.cell (World.block_lt_of_cell? w _ hw268_3)).trans hw268_3), ((HB.out.cell (World.block_lt_of_cell? w _ hw268_4)).trans hw268_4), ((HB.out.cell (World.block_lt_of_cell? w _ hw269_0)).trans hw269_0), ((HB.out.cell (World.block_lt_of_cell? w _ hw269_1)).trans hw269_1), ((HB.out.cell (World.block_lt_of_cell? w _ hw269_2)).trans hw269_2), ((HB.out.cell (World.block_lt_of_cell? w _ hw269_3)).trans hw269_3), ((HB.out.cell (World.block_lt_of_cell? w _ hw269_4)).trans hw269_4), ((HB.out.cell (World.block_lt_of_cell? w _ hw270_0)).trans hw270_0), ((HB.out.cell (World.block_lt_of_cell? w _ hw270_1)).trans hw270_1), ((HB.out.cell (World.block_lt_of_cell? w _ hw270_2)).trans hw270_2), ((HB.out.cell (World.block_lt_of_cell? w _ hw270_3)).trans hw270_3), ((HB.out.cell (World.block_lt_of_cell? w _ hw270_4)).trans hw270_4), ((HB.out.cell (World.block_lt_of_cell? w _ hw271_0)).trans hw271_0), ((HB.out.cell (World.block_lt_of_cell? w _ hw271_1)).trans hw271_1), ((HB.out.cell (World.block_lt_of_cell? w _ hw271_2)).trans hw271_2), ((HB.out.cell (World.block_lt_of_cell? w _ hw271_3)).trans hw271_3), ((HB.out.cell (World.block_lt_of_cell? w _ hw271_4)).trans hw271_4)⟩ (fun hHeld => ?_)
         clear hK K
         refine norm_ (a' := ?_) ?_ ?_
         rotate_left
         ·show Act.put _ (some 54) _ = _
          simp only [Act.put, Kx.sb, Kx.sz, Kx.ss, i64_w, i32_w]
          rfl
         refine Cz.qO (N := some 55) 25 HT_ (fun K hK => ?_)
         refine Cz.gO Try.func22 #[.string (⟨#[98, 98, 98, 119]⟩ : ByteArray), .slice Ao16 y272.length co16] ?_
         with_reducible refine (waggonerref01_Pack.calls (⟨#[98, 98, 98, 119]⟩ : ByteArray) _ _ y272 t275 t276 _ ?side1 ?side2 A9.out).mono ?_
         (case side1 => repeat (first | exact (Kd.R_reads' HO274.out).2.2 | (with_reducible refine Kd.C_alloc ?_ _) | (with_reducible refine Kd.C_drewN ?_ _) | (with_reducible refine Kd.C_drew ?_)))
         (case side2 => exact (Kd.R_reads' HO274.out).2.1)
         rintro e w17 ⟨v277, rfl, ho0, hb⟩
         refine ⟨_, rfl, ?_⟩
         have HO278 := Aside0.mk (Kd.R_lower (Kd.R_new' ho0 (Kd.R_lt (by (with_reducible repeat (first | apply Kd.R_alloc | apply Kd.R_drewN | apply Kd.R_drew)); exact HO_4.out))) (below_size (Cz.bl (w := w))))
         replace HO_4 := Aside0.mk (Kd.R_elder' (Cz.rq HO_4) (Kd.R_base ho0) hb)
         replace HO274 := Cz.rb HO274 hb
         replace HB := Cz.bs (w := w) hb
         (try clear hb)
         (try clear hb2)
         (try clear hk)
         (try clear hi)
         (try clear ho0)
         refine hK.out _ _ ⟨((HB.out.cell (World.block_lt_of_cell? w _ hw268_0)).trans hw268_0), ((HB.out.cell (World.block_lt_of_cell? w _ hw268_1)).trans hw268_1), ((HB.out.cell (World.block_lt_of_cell? w _ hw268_2)).trans hw268_2), ((HB.out.cell (World.block_lt_of_cell? w _ hw268_3)).trans hw268_3), ((HB.out.cell (World.block_lt_of_cell? w _ hw268_4)).trans hw268_4), ((HB.out.cell (World.block_lt_of_cell? w _ hw269_0)).trans hw269_0), ((HB.out.cell (World.block_lt_of_cell? w _ hw269_1)).trans hw269_1), ((HB.out.cell (World.block_lt_of_cell? w _ hw269_2)).trans hw269_2), ((HB.out.cell (World.block_lt_of_cell? w _ hw269_3)).trans hw269_3), ((HB.out.cell (World.block_lt_of_cell? w _ hw269_4)).trans hw269_4), ((HB.out.cell (World.block_lt_of_cell? w _ hw270_0)).trans hw270_0), ((HB.out.cell (World.block_lt_of_cell? w _ hw270_1)).trans hw270_1), ((HB.out.cell (World.block_lt_of_cell? w _ hw270_2)).trans hw270_2), ((HB.out.cell (World.block_lt_of_cell? w _ hw270_3)).trans hw270_3), ((HB.out.cell (World.block_lt_of_cell? w _ hw270_4)).trans hw270_4), ((HB.out.cell (World.block_lt_of_cell? w _ hw271_0)).trans hw271_0), ((HB.out.cell (World.block_lt_of_cell? w _ hw271_1)).trans hw271_1), ((HB.out.cell (World.block_lt_of_cell? w _ hw271_2)).trans hw271_2), ((HB.out.cell (World.block_lt_of_cell? w _ hw271_3)).trans hw271_3), ((HB.out.cell (World.block_lt_of_cell? w _ hw271_4)).trans hw271_4)⟩ (fun hHeld => ?_)
         clear hK K
         refine norm_ (a' := ?_) ?_ ?_
         rotate_left
         ·show Act.put _ (some 55) _ = _
          simp only [Act.put, Kx.sb, Kx.sz, Kx.ss, i64_w, i32_w]
          rfl
         refine Cz.qP 26 29 HT_ ?_
         refine Cz.qP 27 56 HT_ ?_
         refine Cz.qP 28 57 HT_ ?_
         refine Cz.qP 29 7 HT_ ?_
         refine Cz.qP 30 8 HT_ ?_
         refine done_ (done_of HT_.out (by kernel_rfl)) ?_
         try go_wp2
         replace HO_4 := Aside0.mk (Kd.R_drew HO_4.out)
         replace HO274 := Aside0.mk (Kd.R_drew HO274.out)
         replace HO278 := Aside0.mk (Kd.R_drew HO278.out)
         replace HB := Aside0.mk (below_drew1 HB.out)
         have p282 : 0 ≤ (x5_1 : Int) := of_decide_eq_true (by first | (with_reducible assumption) | assumption)
         have q282 : x5_1 < (l0.length : Int) := of_decide_eq_true (by first | (with_reducible assumption) | assumption)
         obtain ⟨ad282, A282_4, c282_4, e282, hx282_0, hx282_1, hx282_2, hx282_3, hx282_4, hl282_4, hi282_4⟩ := at_T39 HR0.out x5_1 p282 q282
         have hw282_4 := hx282_4
         have hw282_3 := hx282_3
         have hw282_2 := hx282_2
         have hw282_1 := hx282_1
         have hw282_0 := hx282_0
         obtain rfl : ad266 = ad282 := (by injection e282)
         replace hx282_0 := (HB.out.cell (World.block_lt_of_cell? w _ hx282_0)).trans hx282_0
         replace hx282_1 := (HB.out.cell (World.block_lt_of_cell? w _ hx282_1)).trans hx282_1
         replace hx282_2 := (HB.out.cell (World.block_lt_of_cell? w _ hx282_2)).trans hx282_2
         replace hx282_3 := (HB.out.cell (World.block_lt_of_cell? w _ hx282_3)).trans hx282_3
         replace hx282_4 := (HB.out.cell (World.block_lt_of_cell? w _ hx282_4)).trans hx282_4
         have HR282_4 := Aside0.mk hi282_4
         have HC282_4 := Aside0.mk hl282_4
         clear hi282_4 hl282_4
         replace p282 := eq_true p282
         replace q282 := eq_true q282
         obtain ⟨Ao20, co20, eo20⟩ := Kd.R_slice HO278.out
         (first | subst eo20 | (injection eo20 with f1_ f2_ f3_; have f4_ := f1_.symm; have f5_ := f3_.symm; clear f1_ f2_ f3_; subst f4_; subst f5_))
         refine start_ (n := 10) (S := fun w' => w'.cell? (ad266.add ((x5_1).toNat * 5)) = some (.int .i64 ((rd_T39 l0 x5_1).f0)) ∧ w'.cell? ⟨(ad266.add ((x5_1).toNat * 5)).block, (ad266.add ((x5_1).toNat * 5)).off + 1, none⟩ = some (.int .i64 ((rd_T39 l0 x5_1).f1)) ∧ w'.cell? ⟨(ad266.add ((x5_1).toNat * 5)).block, (ad266.add ((x5_1).toNat * 5)).off + 2, none⟩ = some (.int .i64 ((rd_T39 l0 x5_1).f2)) ∧ w'.cell? ⟨(ad266.add ((x5_1).toNat * 5)).block, (ad266.add ((x5_1).toNat * 5)).off + 3, none⟩ = some (.int .i64 ((rd_T39 l0 x5_1).f3)) ∧ w'.cell? ⟨(ad266.add ((x5_1).toNat * 5)).block, (ad266.add ((x5_1).toNat * 5)).off + 4, none⟩ = some (.slice A282_4 ((rd_T39 l0 x5_1).f4).length c282_4)) (ds := []) #[false, false, false, false, false, false, false, false, false, false] (by kernel_rfl) rfl rfl ⟨((HB.out.cell (World.block_lt_of_cell? w _ hw282_0)).trans hw282_0), ((HB.out.cell (World.block_lt_of_cell? w _ hw282_1)).trans hw282_1), ((HB.out.cell (World.block_lt_of_cell? w _ hw282_2)).trans hw282_2), ((HB.out.cell (World.block_lt_of_cell? w _ hw282_3)).trans hw282_3), ((HB.out.cell (World.block_lt_of_cell? w _ hw282_4)).trans hw282_4)⟩ (fun hHeld => ?_); refine with_tabW waggonerref07_Write_p.tab11 waggonerref07_Write_p.bits11 (fun HT_ HW_ => ?_)
         generalize w17.drew = w18 at HO_4 HO274 HO278 HB HR282_4 hx282_0 hx282_1 hx282_2 hx282_3 hx282_4 hHeld ⊢
         refine Cz.qP 0 58 HT_ ?_
         refine Cz.qP 1 59 HT_ ?_
         refine Cz.qP 3 61 HT_ ?_
         refine Cz.qP 4 62 HT_ ?_
         refine Cz.qP 5 63 HT_ ?_
         refine Cz.qP 6 64 HT_ ?_
         refine Cz.qT 7 65 HT_ HW_ hHeld ?_
         refine Cz.qO (N := some 60) 2 HT_ (fun K hK => ?_)
         refine Kd.R_append_rows_step (Kd.int .u8) (w0 := w) w.heap.size (by rfl) (.tmp 58) (.tmp 59) 23 5 (.int .u8 0) 1 rfl Try.underlying23 info5 rfl (by decide) (by omega) u4 x4_1 t275 _ _ _ (fun k_ => some k_ ≠ (.slice Ao20 t275.length co20 : Value).ownBlock) (fun _ => False) rfl rfl ?aO ?aR (fun _ _ h => h) (fun _ h => h.elim) ?aF ?aB ?aS ?aL ?_
         (case aR => repeat (first | exact (Kd.R_reads' HO278.out).2.2 | (with_reducible refine Kd.C_alloc ?_ _) | (with_reducible refine Kd.C_drewN ?_ _) | (with_reducible refine Kd.C_drew ?_)))
         (case aB => exact (Cz.bl (w := w)))
         (case aF => exact (fun k_ hk => Kd.fresh' (Kd.R_lt (by (with_reducible repeat (first | apply Kd.R_alloc | apply Kd.R_drewN | apply Kd.R_drew)); exact HO278.out)) k_ hk))
         (case aO => exact (by (with_reducible repeat (first | apply Kd.R_alloc | apply Kd.R_drewN | apply Kd.R_drew)); exact Kd.R_mono HO_4.out (fun _ hk => hk.2)))
         (case aS => exact (below_size (Cz.bl (w := w))))
         (case aL => have := LMc10.out; omega)
         intro v280 w19 ho hb hg hat
         rw [← Ny279.out] at ho
         have HO281 := Aside0.mk (ho)
         replace HO274 := Aside0.mk (Kd.R_over' (by (with_reducible repeat (first | apply Kd.R_alloc | apply Kd.R_drewN | apply Kd.R_drew)); exact HO274.out) (Kd.R_typed (by (with_reducible repeat (first | apply Kd.R_alloc | apply Kd.R_drewN | apply Kd.R_drew)); exact HO_4.out)) (by decide) hg)
         replace HO278 := Aside0.mk (Kd.R_after (ok := (fun _ => True)) (by (with_reducible repeat (first | apply Kd.R_alloc | apply Kd.R_drewN | apply Kd.R_drew)); exact HO278.out) hg hat)
         replace HB := Aside0.mk (hb)
         clear HO_4
         clear ho hb hg hat
         refine hK.out _ _ ⟨((HB.out.cell (World.block_lt_of_cell? w _ hw282_0)).trans hw282_0), ((HB.out.cell (World.block_lt_of_cell? w _ hw282_1)).trans hw282_1), ((HB.out.cell (World.block_lt_of_cell? w _ hw282_2)).trans hw282_2), ((HB.out.cell (World.block_lt_of_cell? w _ hw282_3)).trans hw282_3), ((HB.out.cell (World.block_lt_of_cell? w _ hw282_4)).trans hw282_4)⟩ (fun hHeld => ?_)
         clear hK K
         refine norm_ (a' := ?_) ?_ ?_
         rotate_left
         ·show Act.put _ (some 60) _ = _
          simp only [Act.put, Kx.sb, Kx.sz, Kx.ss, i64_w, i32_w]
          rfl
         refine Cz.qO (N := some 66) 8 HT_ (fun K hK => ?_)
         refine Kd.R_append_rows_step (Kd.int .u8) (w0 := w) w.heap.size (by rfl) (.tmp 60) (.tmp 65) 23 5 (.int .u8 0) 1 rfl Try.underlying23 info5 rfl (by decide) (by omega) v280 y279 ((rd_T39 l0 x5_1).f4) _ _ _ (fun k_ => some k_ ≠ (.slice Ao20 t275.length co20 : Value).ownBlock) (fun _ => False) rfl rfl ?aO ?aR (fun _ _ h => h) (fun _ h => h.elim) ?aF ?aB ?aS ?aL ?_
         (case aR => exact Cz.cb HR282_4)
         (case aB => exact (Cz.bl (w := w)))
         (case aF => exact (fun k_ hk => Kd.fresh' (Kd.R_lt (by (with_reducible repeat (first | apply Kd.R_alloc | apply Kd.R_drewN | apply Kd.R_drew)); exact HO278.out)) k_ hk))
         (case aO => exact (by (with_reducible repeat (first | apply Kd.R_alloc | apply Kd.R_drewN | apply Kd.R_drew)); exact HO281.out))
         (case aS => exact (below_size (Cz.bl (w := w))))
         (case aL => have := LMc11.out; omega)
         intro v284 w21 ho hb hg hat
         rw [← Ny283.out] at ho
         have HO285 := Aside0.mk (ho)
         replace HO274 := Aside0.mk (Kd.R_over' (by (with_reducible repeat (first | apply Kd.R_alloc | apply Kd.R_drewN | apply Kd.R_drew)); exact HO274.out) (Kd.R_typed (by (with_reducible repeat (first | apply Kd.R_alloc | apply Kd.R_drewN | apply Kd.R_drew)); exact HO281.out)) (by decide) hg)
         replace HO278 := Aside0.mk (Kd.R_after (ok := (fun _ => True)) (by (with_reducible repeat (first | apply Kd.R_alloc | apply Kd.R_drewN | apply Kd.R_drew)); exact HO278.out) hg hat)
         replace HB := Aside0.mk (hb)
         clear HO281
         clear ho hb hg hat
         refine hK.out _ _ ⟨((HB.out.cell (World.block_lt_of_cell? w _ hw282_0)).trans hw282_0), ((HB.out.cell (World.block_lt_of_cell? w _ hw282_1)).trans hw282_1), ((HB.out.cell (World.block_lt_of_cell? w _ hw282_2)).trans hw282_2), ((HB.out.cell (World.block_lt_of_cell? w _ hw282_3)).trans hw282_3), ((HB.out.cell (World.block_lt_of_cell? w _ hw282_4)).trans hw282_4)⟩ (fun hHeld => ?_)
         clear hK K
         refine norm_ (a' := ?_) ?_ ?_
         rotate_left
         ·show Act.put _ (some 66) _ = _
          simp only [Act.put, Kx.sb, Kx.sz, Kx.ss, i64_w, i32_w]
          rfl
         refine Cz.qP 9 4 HT_ ?_
         refine done_ (done_of HT_.out (by kernel_rfl)) ?_
         try go_wp2
         go_roundg k1
         case measure => have := HK1.out; omega
         case rel => exact ⟨(y283), (wrap64 (x5_1 + 1)), Cz.si, H', ⟨by have := HK1.out; omega⟩, ⟨by (with_reducible repeat (first | apply Kd.R_alloc | apply Kd.R_drewN | apply Kd.R_drew)); exact Kd.R_mono HO285.out (fun _ hk => trivial)⟩, ⟨Cz.bl (w := w)⟩⟩
        ·rw [if_neg c11] at H
         exact absurd H (by simp)
       ·rw [if_neg c10] at H
        exact absurd H (by simp)
      ·replace c8 := Bool.eq_false_iff.mpr c8
       subst c8
       rw [if_neg (show ¬ (false = true) by decide)] at H
       simp only [Option.some.injEq, Prod.mk.injEq] at H
       obtain ⟨rfl, rfl⟩ := H
       have p266 : 0 ≤ (x5_1 : Int) := of_decide_eq_true (by first | (with_reducible assumption) | assumption)
       have q266 : x5_1 < (l0.length : Int) := of_decide_eq_true (by first | (with_reducible assumption) | assumption)
       obtain ⟨ad266, A266_4, c266_4, e266, hx266_0, hx266_1, hx266_2, hx266_3, hx266_4, hl266_4, hi266_4⟩ := at_T39 HR0.out x5_1 p266 q266
       cases e266
       replace hx266_0 := (HB.out.cell (World.block_lt_of_cell? w _ hx266_0)).trans hx266_0
       replace hx266_1 := (HB.out.cell (World.block_lt_of_cell? w _ hx266_1)).trans hx266_1
       replace hx266_2 := (HB.out.cell (World.block_lt_of_cell? w _ hx266_2)).trans hx266_2
       replace hx266_3 := (HB.out.cell (World.block_lt_of_cell? w _ hx266_3)).trans hx266_3
       replace hx266_4 := (HB.out.cell (World.block_lt_of_cell? w _ hx266_4)).trans hx266_4
       have HR266_4 := Aside0.mk hi266_4
       have HC266_4 := Aside0.mk hl266_4
       clear hi266_4 hl266_4
       replace p266 := eq_true p266
       replace q266 := eq_true q266
       go_wp2_with (first | ((with_reducible refine gate_callee (f := 39) rfl ?_); refine Cz.gL (N := (some 26)) Try.func39 #[.agg #[.int .i64 ((rd_T39 l0 x5_1).f0), .int .i64 ((rd_T39 l0 x5_1).f1), .int .i64 ((rd_T39 l0 x5_1).f2), .int .i64 ((rd_T39 l0 x5_1).f3), .slice A266_4 ((rd_T39 l0 x5_1).f4).length c266_4]] ?_; (with_reducible refine (waggonerref07_Check.calls ((rd_T39 l0 x5_1).f0) ((rd_T39 l0 x5_1).f1) ((rd_T39 l0 x5_1).f2) ((rd_T39 l0 x5_1).f3) _ _ ((rd_T39 l0 x5_1).f4) false _ ?side1 ?side2 A7.out).mono ?_); (case side1 => exact Cz.cb HR266_4); (case side2 => exact HC266_4.out); rintro e w22 ⟨rfl, hb⟩; refine ⟨_, rfl, ?_⟩; replace HO_4 := Cz.rb HO_4 hb; replace HB := Cz.bs (w := w) hb; (try clear hb)))
       go_ret2
       exact ⟨_, Cz.er, by first | exact Kd.R_nil _ _ _ _ _ | exact Kd.N_nil _ _ _ _ _ | exact Kd.V_nil _ _ _ _ _ | exact Kd.Q_nil _ _ _ _ _ | exact Kd.S_nil _ _ _ _ _, Cz.bl (w := w)⟩
     ·rw [if_neg c6] at H
      exact absurd H (by simp)
    ·rw [if_neg c5] at H
     have c5b0 : decide (x5_1 < (l0.length : Int)) = false := decide_eq_false c5
     clear c5
     simp only [Option.some.injEq, Prod.mk.injEq] at H
     obtain ⟨rfl, rfl⟩ := H
     go_wp2
     go_ret2
     exact ⟨_, Cz.er, Cz.rh, Cz.bl (w := w)⟩
def waggonerref07_Write.f (l0 : List S39) : Option (List Int × Int) := some (Pl.ewriteS (l0.map toE))
theorem waggonerref07_Write.pack (a n k g : Int) : ∃ r e, waggonerref01_Pack.f (⟨#[98, 98, 98, 119]⟩ : ByteArray) [IntKind.u64.wrap a, IntKind.u64.wrap n, IntKind.u64.wrap k, IntKind.u64.wrap g] = some (r, e) ∧ ∀ d, Pl.extOk a n k g d = true → r = Pl.extHead a n k g := by
 unfold waggonerref01_Pack.f
 rw [if_pos ⟨Pl.u64B_iff.2 (by
  intro x hx
  simp only [List.mem_cons, List.not_mem_nil, or_false] at hx
  rcases hx with rfl | rfl | rfl | rfl <;> rw [IntKind.wrap_u64] <;> omega), by decide⟩, show Pl.fb (⟨#[98, 98, 98, 119]⟩ : ByteArray) = Pl.extForm from by kernel_rfl]
 refine ⟨(Pl.packS Pl.extForm [IntKind.u64.wrap a, IntKind.u64.wrap n, IntKind.u64.wrap k, IntKind.u64.wrap g]).1, (Pl.packS Pl.extForm [IntKind.u64.wrap a, IntKind.u64.wrap n, IntKind.u64.wrap k, IntKind.u64.wrap g]).2, rfl, fun d h => ?_⟩
 obtain ⟨p0, p1, p2, p3, q0, q1, q2, q3⟩ := Pl.ext_lt h
 rw [show IntKind.u64.wrap a = a by rw [IntKind.wrap_u64]; omega, show IntKind.u64.wrap n = n by rw [IntKind.wrap_u64]; omega, show IntKind.u64.wrap k = k by rw [IntKind.wrap_u64]; omega, show IntKind.u64.wrap g = g by rw [IntKind.wrap_u64]; omega, Pl.packS_some (Pl.packP_ext p0 p1 p2 p3)]
theorem waggonerref07_Write.loop {l0 : List S39} (h2 : l0.length ≤ 64) : ∀ (d k i : Nat) (out : List Int), l0.length - i = d → i ≤ l0.length → d < k → out.length ≤ 1 + 2055 * i → waggonerref07_Write_p.l0 k l0 out (i : Int) = some (if ((l0.drop i).map toE).all Pl.eOk = true then (out ++ Pl.extsB ((l0.drop i).map toE), 0) else ([], 70))
 | 0, k, i, out, hd, hi, hk, ho => by
  obtain ⟨k, rfl⟩ : ∃ m, k = m + 1 := ⟨k - 1, by omega⟩
  rw [waggonerref07_Write_p.l0, if_neg (by omega), List.drop_of_length_le (by omega), List.map_nil, Pl.extsB, List.append_nil, if_pos (show List.all [] Pl.eOk = true from rfl)]
 | d + 1, k, i, out, hd, hi, hk, ho => by
  obtain ⟨k, rfl⟩ : ∃ m, k = m + 1 := ⟨k - 1, by omega⟩
  have hi0 : i < l0.length := by omega
  obtain ⟨r, e, hp, hre⟩ := waggonerref07_Write.pack l0[i].f0 l0[i].f1 l0[i].f2 l0[i].f3
  rw [waggonerref07_Write_p.l0, if_pos (by omega), if_pos (by omega), rd_getE l0 i hi0, waggonerref07_Check.f, Option.bind_some, List.drop_eq_getElem_cons hi0, List.map_cons, List.all_cons]
  by_cases hok : Pl.extOk l0[i].f0 l0[i].f1 l0[i].f2 l0[i].f3 l0[i].f4 = true
  ·obtain rfl := hre _ hok
   have hl := Pl.extOk_len hok
   rw [if_pos hok, hp, Option.bind_some]
   dsimp only
   rw [if_pos (by rw [Pl.extHead_length]; omega), Option.bind_some, if_pos (by rw [List.length_append, Pl.extHead_length]; omega), show wrap64 ((i : Int) + 1) = ((i + 1 : Nat) : Int) by unfold wrap64; omega,
    waggonerref07_Write.loop h2 d k (i + 1) _ (by omega) (by omega) (by omega) (by rw [List.length_append, List.length_append, Pl.extHead_length]; omega), show Pl.eOk (toE l0[i]) = true from hok, Bool.true_and, Pl.extsB]
   rw [show Pl.extW (toE l0[i]) = Pl.extHead l0[i].f0 l0[i].f1 l0[i].f2 l0[i].f3 ++ l0[i].f4 from rfl, List.append_assoc, List.append_assoc, List.append_assoc]
  ·rw [if_neg hok, show Pl.eOk (toE l0[i]) = false from Bool.eq_false_iff.2 hok, Bool.false_and, if_neg (by decide)]
theorem waggonerref07_Write.closes {l0 : List S39} {r : List Int × Int} (h : waggonerref07_Write.f l0 = some r) : waggonerref07_Write_p.f (l0.length + 1) l0 = some r := by
 rw [← h]
 unfold waggonerref07_Write_p.f waggonerref07_Write.f
 rw [Pl.ewriteS, Pl.eAll, List.length_map]
 by_cases h6 : l0.length > 64
 ·rw [if_pos (by omega), if_neg (by simp; omega)]
 rw [if_neg (by omega), decide_eq_true (show l0.length ≤ 64 by omega), Bool.true_and]
 have := waggonerref07_Write.loop (l0 := l0) (by omega) l0.length (l0.length + 1) 0 [((l0.length : Int)) % 256] (by omega) (by omega) (by omega) (by simp)
 rw [List.drop_zero] at this
 rw [show (0 : Int) = ((0 : Nat) : Int) from rfl, this, show ((l0.length : Int)) % 256 = (l0.length : Int) by omega]
 by_cases ha : (l0.map toE).all Pl.eOk = true
 ·rw [if_pos ha, if_pos ha, Pl.extsW, List.length_map]
  rfl
 ·rw [if_neg ha, if_neg ha]
theorem waggonerref07_Write.calls (A0 : Option Addr) (c0 : Nat) (l0 : List (S39)) (r1 : List Int) (r2 : Int) (w : World) (hr0 : Kd.C k39 w A0 l0.length l0) (hc0 : l0.length ≤ c0) (h : waggonerref07_Write.f l0 = some (r1, r2)) :
  Calls Try.prog 23 #[.slice A0 l0.length c0] w fun e w' => ∃ v0_ : Value, e = .returned (.tuple #[v0_, .int .i64 r2]) ∧ Kd.R (Kd.int .u8) 5 w' w.heap.size (fun _ => True) v0_ r1 ∧ Below w.heap.size w w' :=
 waggonerref07_Write_p.calls (l0.length + 1) A0 c0 l0 r1 r2 w hr0 hc0 (waggonerref07_Write.closes h)
end Go.Proofs.Ytmgohkffphogdaa.PU
