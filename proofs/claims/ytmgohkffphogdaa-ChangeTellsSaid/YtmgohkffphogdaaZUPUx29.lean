/- Words and walks that this claim names, of those that the kit's print and programs of this workplace have printed. -/
import Derived.Test.YtmgohkffphogdaaZUCz
import Derived.Test.YtmgohkffphogdaaZUPUx15
import Derived.Test.YtmgohkffphogdaaZUPUx23
import Derived.Test.YtmgohkffphogdaaZUPUx27
namespace Go.Proofs.Ytmgohkffphogdaa.PU
open Go.Proofs.Ytmgohkffphogdaa Go.RowKit Go.Proofs.YtmgohkffphogdaaW.PrintWords Go.Proofs.YtmgohkffphogdaaW.PrintLast Go.Proofs.YtmgohkffphogdaaW.PrintMore
attribute [local go_sem] max2_int min2_int max_two min_two max_three min_three max_four min_four
set_option linter.unusedVariables false
set_option linter.unusedSimpArgs false
def extent_Write_p.l0 : Nat → List (S39) → List Int → List (S39) → Int → Int → Option (List Int × Int)
 | 0, _, _, _, _, _ => none
 | k + 1, x0, x4, x13, x14, x15 => if x15 < x14 then (if 0 ≤ x15 then (if x15 < (x13.length : Int) then ((le_Pack.f (⟨#[98, 98, 98, 119]⟩ : ByteArray) (([IntKind.u64.wrap ((rd_T39 x13 x15).f0), IntKind.u64.wrap ((rd_T39 x13 x15).f1), IntKind.u64.wrap ((rd_T39 x13 x15).f2), IntKind.u64.wrap ((rd_T39 x13 x15).f3)] : List Int))).bind fun bt136 => ((extent_Check.f ((rd_T39 x13 x15).f0) ((rd_T39 x13 x15).f1) ((rd_T39 x13 x15).f2) ((rd_T39 x13 x15).f3) ((rd_T39 x13 x15).f4)).bind fun t140 => (if t140 = true then (if bt136.2 = 0 then (if x4.length + bt136.1.length < 140737488355328 then ((some (x4 ++ bt136.1 : List Int)).bind fun y141 => (if y141.length + ((rd_T39 x13 x15).f4).length < 140737488355328 then (extent_Write_p.l0 k x0 (y141 ++ ((rd_T39 x13 x15).f4)) x13 x14 (wrap64 (x15 + 1))) else (none))) else (none)) else (some (([] : List Int), 70))) else (some (([] : List Int), 70))))) else (none)) else (none)) else (if (x0.length : Int) > 64 then (some (([] : List Int), 70)) else (some (x4, 0)))
def extent_Write_p.f (k : Nat) (l0 : List (S39)) : Option (List Int × Int) := extent_Write_p.l0 k l0 (([((l0.length : Int)) % 256] : List Int)) l0 (l0.length : Int) 0
set_option maxHeartbeats 8000000 in
set_option maxRecDepth 100000 in
theorem extent_Write_p.calls (k : Nat) (A0 : Option Addr) (c0 : Nat) (l0 : List (S39)) (r1 : List Int) (r2 : Int) (w : World) (hr0 : Kd.C k39 w A0 l0.length l0) (hc0 : l0.length ≤ c0) (h : extent_Write_p.f k l0 = some (r1, r2)) :
  Calls Try.prog 21 #[.slice A0 l0.length c0] w fun e w' => ∃ v0_ : Value, e = .returned (.tuple #[v0_, .int .i64 r2]) ∧ Kd.R (Kd.int .u8) 5 w' w.heap.size (fun _ => True) v0_ r1 ∧ Below w.heap.size w w' := by
 have hu39 := Try.underlying39
 have HR0 := Aside0.mk hr0
 have HC0 := Aside0.mk hc0
 clear hr0 hc0
 have HB := Aside0.mk (Below.refl w.heap.size w)
 have H : (extent_Write_p.l0 k l0 (([((l0.length : Int)) % 256] : List Int)) l0 (l0.length : Int) 0) = some (r1, r2) := h
 clear h
 obtain ⟨y128, hy128⟩ : ∃ y_ : List Int, y_ = (([((l0.length : Int)) % 256] : List Int)) := ⟨_, rfl⟩
 replace H : (extent_Write_p.l0 k l0 y128 l0 (l0.length : Int) 0) = some (r1, r2) := by first | (rw [hy128]; with_reducible exact H) | (have H2_ := (Option.bind_some _ _).symm.trans H; rw [hy128]; with_reducible exact H2_) | (have H2_ := (Option.bind_some _ _).symm.trans H; with_reducible exact H2_) | with_reducible exact H | (rw [hy128]; exact H) | exact H
 have Ny128 := Aside0.mk hy128
 clear hy128
 have H' := Aside0.mk H
 clear H
 go_enter Try.func21, Try.ntmps21
 go_wp2_with (first | ((with_reducible refine gate_dst (N := 12) rfl ?_); refine Kd.R_lit (Kd.int .u8) _ 5 ?hg (N := 12) ?hd (xs := ([((l0.length : Int)) % 256] : List Int)) (inner := [.int .u8 (((l0.length : Int)) % 256)]) (ok := fun _ => True) (okp := fun _ => True) ?hr ?hp (fun _ hk => hk) trivial (Below.refl _ _) (Nat.le_refl _) (by simp) ?_; (case hd => rfl); (case hg => rfl); (case hr => first | (go_simp; done) | (go_simp; rfl)); (case hp => exact (Reps.one (show Kd.M (Kd.int .u8) _ _ _ (((l0.length : Int)) % 256) [.int .u8 (((l0.length : Int)) % 256)] from rfl) (Reps.none _ _))); intro v129 w2 ho3 hb hg_ hnew_; clear hg_ hnew_; (first | rw [← Ny128.out] at ho3 | (simp only [Int.reduceToNat] at ho3; rw [← Ny128.out] at ho3)); have HO130 := Aside0.mk (Kd.R_lower ho3 (below_size (Cz.bl (w := w)))); replace HB := Cz.bs (w := w) hb; clear hb ho3))
 go_loopg [4, 15] k (fun kq v4 v15 w' => ∃ (x4_1 : List Int) (x15_1 : Int), v15 = .int .i64 x15_1 ∧ Aside0 (extent_Write_p.l0 kq l0 x4_1 l0 (l0.length : Int) x15_1 = some (r1, r2)) ∧ Aside0 (kq ≤ k) ∧ Aside0 (Kd.R (Kd.int .u8) 5 w' w.heap.size (fun _ => True) v4 x4_1) ∧ Aside0 (Below w.heap.size w w'))
 case atStart => exact ⟨(y128), (0), Cz.si, H', ⟨Nat.le_refl _⟩, ⟨by (with_reducible repeat (first | apply Kd.R_alloc | apply Kd.R_drewN | apply Kd.R_drew)); exact HO130.out⟩, ⟨Cz.bl (w := w)⟩⟩
 case round =>
  clear H'
  try clear c2
  try clear p2
  obtain ⟨x4_1, x15_1, rfl, HA, HK1, HO_4, HB⟩ := hrel
  cases gk with
  | zero => exact absurd HA.out (by simp [extent_Write_p.l0])
  | succ k1 =>
   have H := HA.out
   clear HA
   simp only [extent_Write_p.l0] at H
   by_cases c4 : x15_1 < (l0.length : Int)
   ·rw [if_pos c4] at H
    have c4b0 : decide (x15_1 < (l0.length : Int)) = true := decide_eq_true c4
    clear c4
    by_cases c5 : 0 ≤ x15_1
    ·rw [if_pos c5] at H
     have c5b0 : decide (0 ≤ x15_1) = true := decide_eq_true c5
     clear c5
     by_cases c6 : x15_1 < (l0.length : Int)
     ·rw [if_pos c6] at H
      have c6b0 : decide (x15_1 < (l0.length : Int)) = true := decide_eq_true c6
      clear c6
      obtain ⟨y133, hy133⟩ : ∃ y_ : List Int, y_ = (([IntKind.u64.wrap ((rd_T39 l0 x15_1).f0), IntKind.u64.wrap ((rd_T39 l0 x15_1).f1), IntKind.u64.wrap ((rd_T39 l0 x15_1).f2), IntKind.u64.wrap ((rd_T39 l0 x15_1).f3)] : List Int)) := ⟨_, rfl⟩
      replace H : ((le_Pack.f (⟨#[98, 98, 98, 119]⟩ : ByteArray) y133).bind fun bt136 => ((extent_Check.f ((rd_T39 l0 x15_1).f0) ((rd_T39 l0 x15_1).f1) ((rd_T39 l0 x15_1).f2) ((rd_T39 l0 x15_1).f3) ((rd_T39 l0 x15_1).f4)).bind fun t140 => (if t140 = true then (if bt136.2 = 0 then (if x4_1.length + bt136.1.length < 140737488355328 then ((some (x4_1 ++ bt136.1 : List Int)).bind fun y141 => (if y141.length + ((rd_T39 l0 x15_1).f4).length < 140737488355328 then (extent_Write_p.l0 k1 l0 (y141 ++ ((rd_T39 l0 x15_1).f4)) l0 (l0.length : Int) (wrap64 (x15_1 + 1))) else (none))) else (none)) else (some (([] : List Int), 70))) else (some (([] : List Int), 70))))) = some (r1, r2) := by first | (rw [hy133]; with_reducible exact H) | (have H2_ := (Option.bind_some _ _).symm.trans H; rw [hy133]; with_reducible exact H2_) | (have H2_ := (Option.bind_some _ _).symm.trans H; with_reducible exact H2_) | with_reducible exact H | (rw [hy133]; exact H) | exact H
      have Ny133 := Aside0.mk hy133
      clear hy133
      replace H := Option.bind_eq_some_iff.mp H
      obtain ⟨⟨t136, t137⟩, A70, H⟩ := H
      (try dsimp only at H)
      have A7 := Aside0.mk A70
      clear A70
      replace H := Option.bind_eq_some_iff.mp H
      obtain ⟨t140, A80, H⟩ := H
      (try dsimp only at H)
      have A8 := Aside0.mk A80
      clear A80
      by_cases c9 : t140 = true
      ·subst c9
       rw [if_pos rfl] at H
       by_cases c10 : t137 = 0
       ·rw [if_pos c10] at H
        have c10b0 : (t137 == 0) = true := beq_iff_eq.mpr c10
        have c10b1 : (t137 != 0) = false := bne_eq_false_iff_eq.mpr c10
        clear c10
        by_cases c11 : x4_1.length + t136.length < 140737488355328
        ·rw [if_pos c11] at H
         have LMc11 := Aside0.mk c11
         clear c11
         obtain ⟨y141, hy141⟩ : ∃ y_ : List Int, y_ = (x4_1 ++ t136) := ⟨_, rfl⟩
         replace H : (if y141.length + ((rd_T39 l0 x15_1).f4).length < 140737488355328 then (extent_Write_p.l0 k1 l0 (y141 ++ ((rd_T39 l0 x15_1).f4)) l0 (l0.length : Int) (wrap64 (x15_1 + 1))) else (none)) = some (r1, r2) := by first | (rw [hy141]; with_reducible exact H) | (have H2_ := (Option.bind_some _ _).symm.trans H; rw [hy141]; with_reducible exact H2_) | (have H2_ := (Option.bind_some _ _).symm.trans H; with_reducible exact H2_) | with_reducible exact H | (rw [hy141]; exact H) | exact H
         have Ny141 := Aside0.mk hy141
         clear hy141
         by_cases c12 : y141.length + ((rd_T39 l0 x15_1).f4).length < 140737488355328
         ·rw [if_pos c12] at H
          have LMc12 := Aside0.mk c12
          clear c12
          obtain ⟨y144, hy144⟩ : ∃ y_ : List Int, y_ = (y141 ++ ((rd_T39 l0 x15_1).f4)) := ⟨_, rfl⟩
          replace H : (extent_Write_p.l0 k1 l0 y144 l0 (l0.length : Int) (wrap64 (x15_1 + 1))) = some (r1, r2) := by first | (rw [hy144]; with_reducible exact H) | (have H2_ := (Option.bind_some _ _).symm.trans H; rw [hy144]; with_reducible exact H2_) | (have H2_ := (Option.bind_some _ _).symm.trans H; with_reducible exact H2_) | with_reducible exact H | (rw [hy144]; exact H) | exact H
          have Ny144 := Aside0.mk hy144
          clear hy144
          have H' := Aside0.mk H
          clear H
          have p131 : 0 ≤ (x15_1 : Int) := of_decide_eq_true (by first | (with_reducible assumption) | assumption)
          have q131 : x15_1 < (l0.length : Int) := of_decide_eq_true (by first | (with_reducible assumption) | assumption)
          obtain ⟨ad131, A131_4, c131_4, e131, hx131_0, hx131_1, hx131_2, hx131_3, hx131_4, hl131_4, hi131_4⟩ := at_T39 HR0.out x15_1 p131 q131
          cases e131
          replace hx131_0 := (HB.out.cell (World.block_lt_of_cell? w _ hx131_0)).trans hx131_0
          replace hx131_1 := (HB.out.cell (World.block_lt_of_cell? w _ hx131_1)).trans hx131_1
          replace hx131_2 := (HB.out.cell (World.block_lt_of_cell? w _ hx131_2)).trans hx131_2
          replace hx131_3 := (HB.out.cell (World.block_lt_of_cell? w _ hx131_3)).trans hx131_3
          replace hx131_4 := (HB.out.cell (World.block_lt_of_cell? w _ hx131_4)).trans hx131_4
          have HR131_4 := Aside0.mk hi131_4
          have HC131_4 := Aside0.mk hl131_4
          clear hi131_4 hl131_4
          replace p131 := eq_true p131
          replace q131 := eq_true q131
          try go_wp2_with (first | ((with_reducible refine gate_dst (N := 6) rfl ?_); refine Cz.bx (N := 6) #[.int .i64 0, .int .i64 0, .int .i64 0, .int .i64 0, .slice none 0 0] 39 ?_; intro gb132 hg w13 hbox hb; have BK132 := Aside0.mk (hbox); have GW132 := Aside0.mk ((Cz.gs hg : w.heap.size ≤ gb132)); have GE132 := GW132; replace HO_4 := Cz.rb HO_4 hb; replace HB := Cz.bs (w := w) hb; clear hb hbox hg; obtain ⟨z14_0, z14_1, z14_2, z14_3, z14_4, y14_0, y14_1, y14_2, y14_3, y14_4⟩ := Cz.d5 BK132) | ((with_reducible refine gate_dst (N := 32) rfl ?_); refine Kd.R_lit (Kd.int .u64) _ 44 ?hg (N := 32) ?hd (xs := ([IntKind.u64.wrap ((rd_T39 l0 x15_1).f0), IntKind.u64.wrap ((rd_T39 l0 x15_1).f1), IntKind.u64.wrap ((rd_T39 l0 x15_1).f2), IntKind.u64.wrap ((rd_T39 l0 x15_1).f3)] : List Int)) (inner := [.int .u64 (IntKind.u64.wrap ((rd_T39 l0 x15_1).f0)), .int .u64 (IntKind.u64.wrap ((rd_T39 l0 x15_1).f1)), .int .u64 (IntKind.u64.wrap ((rd_T39 l0 x15_1).f2)), .int .u64 (IntKind.u64.wrap ((rd_T39 l0 x15_1).f3))]) (ok := fun _ => True) (okp := fun _ => True) ?hr ?hp (fun _ hk => hk) trivial (Below.refl _ _) (Nat.le_refl _) (by simp) ?_; (case hd => rfl); (case hg => rfl); (case hr => first | (go_simp; done) | (go_simp; rfl)); (case hp => exact (Reps.one (show Kd.M (Kd.int .u64) _ _ _ (IntKind.u64.wrap ((rd_T39 l0 x15_1).f0)) [.int .u64 (IntKind.u64.wrap ((rd_T39 l0 x15_1).f0))] from rfl) (Reps.one (show Kd.M (Kd.int .u64) _ _ _ (IntKind.u64.wrap ((rd_T39 l0 x15_1).f1)) [.int .u64 (IntKind.u64.wrap ((rd_T39 l0 x15_1).f1))] from rfl) (Reps.one (show Kd.M (Kd.int .u64) _ _ _ (IntKind.u64.wrap ((rd_T39 l0 x15_1).f2)) [.int .u64 (IntKind.u64.wrap ((rd_T39 l0 x15_1).f2))] from rfl) (Reps.one (show Kd.M (Kd.int .u64) _ _ _ (IntKind.u64.wrap ((rd_T39 l0 x15_1).f3)) [.int .u64 (IntKind.u64.wrap ((rd_T39 l0 x15_1).f3))] from rfl) (Reps.none _ _)))))); intro v134 w15 ho16 hb hg_ hnew_; clear hg_ hnew_; (first | rw [← Ny133.out] at ho16 | (simp only [Int.reduceToNat] at ho16; rw [← Ny133.out] at ho16)); have HO135 := Aside0.mk (Kd.R_lower ho16 (below_size (Cz.bl (w := w)))); replace HO_4 := Aside0.mk (Kd.R_below (by (with_reducible repeat (first | apply Kd.R_alloc | apply Kd.R_drewN | apply Kd.R_drew)); exact (Kd.R_mono (Cz.rf (Cz.rf (Cz.rf (Cz.rf (Cz.rf (Kd.R_types HO_4.out BK132.out (by decide))))))) (fun _ h_ => h_.1))) hb); replace BK132 := Aside0.mk (blk_below (g := gb132) (o := .cells #[.int .i64 ((rd_T39 l0 x15_1).f0), .int .i64 ((rd_T39 l0 x15_1).f1), .int .i64 ((rd_T39 l0 x15_1).f2), .int .i64 ((rd_T39 l0 x15_1).f3), .slice A131_4 ((rd_T39 l0 x15_1).f4).length c131_4] 39 (0, 0)) (by (with_reducible repeat (first | refine blk_drewN ?_ _ | refine blk_drew ?_ | refine blk_alloc ?_ _)); apply Cz.a5; (with_reducible repeat (first | refine blk_drewN ?_ _ | refine blk_drew ?_ | refine blk_alloc ?_ _)); exact BK132.out) hb); replace HB := Cz.bs (w := w) hb; clear hb ho16; obtain ⟨Ao17, co17, eo17⟩ := Kd.R_slice HO135.out; subst eo17) | ((with_reducible refine gate_callee (f := 20) rfl ?_); refine Cz.gL (N := (some 33)) Try.func20 #[.string (⟨#[98, 98, 98, 119]⟩ : ByteArray), .slice Ao17 y133.length co17] ?_; (with_reducible refine (le_Pack.calls (⟨#[98, 98, 98, 119]⟩ : ByteArray) _ _ y133 t136 t137 _ ?side1 ?side2 A7.out).mono ?_); (case side1 => repeat (first | exact (Kd.R_reads' HO135.out).2.2 | (with_reducible refine Kd.C_alloc ?_ _) | (with_reducible refine Kd.C_drewN ?_ _) | (with_reducible refine Kd.C_drew ?_))); (case side2 => exact (Kd.R_reads' HO135.out).2.1); rintro e w18 ⟨v138, rfl, ho0, hb⟩; refine ⟨_, rfl, ?_⟩; have HO139 := Aside0.mk (Kd.R_lower (Kd.R_new' ho0 (Kd.R_lt (by (with_reducible repeat (first | apply Kd.R_alloc | apply Kd.R_drewN | apply Kd.R_drew)); exact HO_4.out))) (below_size (Cz.bl (w := w)))); replace HO_4 := Aside0.mk (Kd.R_elder' (Cz.rq HO_4) (Kd.R_base ho0) hb); replace HO135 := Cz.rb HO135 hb; replace BK132 := Cz.bk BK132 hb; replace HB := Cz.bs (w := w) hb; (try clear hb); (try clear ho0); have z19_0 : w18.cell? ⟨gb132, 0, none⟩ = some (.int .i64 ((rd_T39 l0 x15_1).f0)) := (blk_cell BK132.out 0).trans rfl; have z19_1 : w18.cell? ⟨gb132, 1, none⟩ = some (.int .i64 ((rd_T39 l0 x15_1).f1)) := (blk_cell BK132.out 1).trans rfl; have z19_2 : w18.cell? ⟨gb132, 2, none⟩ = some (.int .i64 ((rd_T39 l0 x15_1).f2)) := (blk_cell BK132.out 2).trans rfl; have z19_3 : w18.cell? ⟨gb132, 3, none⟩ = some (.int .i64 ((rd_T39 l0 x15_1).f3)) := (blk_cell BK132.out 3).trans rfl; have z19_4 : w18.cell? ⟨gb132, 4, none⟩ = some (.slice A131_4 ((rd_T39 l0 x15_1).f4).length c131_4) := (blk_cell BK132.out 4).trans rfl; obtain ⟨y19_0, y19_1, y19_2, y19_3, y19_4⟩ := Cz.f5 BK132) | ((with_reducible refine gate_callee (f := 36) rfl ?_); refine Cz.gL (N := (some 37)) Try.func36 #[.agg #[.int .i64 ((rd_T39 l0 x15_1).f0), .int .i64 ((rd_T39 l0 x15_1).f1), .int .i64 ((rd_T39 l0 x15_1).f2), .int .i64 ((rd_T39 l0 x15_1).f3), .slice A131_4 ((rd_T39 l0 x15_1).f4).length c131_4]] ?_; (with_reducible refine (extent_Check.calls ((rd_T39 l0 x15_1).f0) ((rd_T39 l0 x15_1).f1) ((rd_T39 l0 x15_1).f2) ((rd_T39 l0 x15_1).f3) _ _ ((rd_T39 l0 x15_1).f4) true _ ?side1 ?side2 A8.out).mono ?_); (case side1 => exact Cz.cb HR131_4); (case side2 => exact HC131_4.out); rintro e w20 ⟨rfl, hb⟩; refine ⟨_, rfl, ?_⟩; replace HO_4 := Cz.rb HO_4 hb; replace HO135 := Cz.rb HO135 hb; replace HO139 := Cz.rb HO139 hb; replace BK132 := Cz.bk BK132 hb; replace HB := Cz.bs (w := w) hb; (try clear hb)))
          replace HO_4 := Aside0.mk (Kd.R_drew HO_4.out)
          replace HO135 := Aside0.mk (Kd.R_drew HO135.out)
          replace HO139 := Aside0.mk (Kd.R_drew HO139.out)
          replace BK132 := Aside0.mk (blk_drew BK132.out)
          replace HB := Aside0.mk (below_drew1 HB.out)
          obtain ⟨Ao23, co23, eo23⟩ := Kd.R_slice HO139.out
          (first | subst eo23 | (injection eo23 with f1_ f2_ f3_; have f4_ := f1_.symm; have f5_ := f3_.symm; clear f1_ f2_ f3_; subst f4_; subst f5_))
          refine start_ (n := 7) (S := fun w' => w'.cell? ⟨gb132, 0, none⟩ = some (.int .i64 ((rd_T39 l0 x15_1).f0)) ∧ w'.cell? ⟨gb132, 1, none⟩ = some (.int .i64 ((rd_T39 l0 x15_1).f1)) ∧ w'.cell? ⟨gb132, 2, none⟩ = some (.int .i64 ((rd_T39 l0 x15_1).f2)) ∧ w'.cell? ⟨gb132, 3, none⟩ = some (.int .i64 ((rd_T39 l0 x15_1).f3)) ∧ w'.cell? ⟨gb132, 4, none⟩ = some (.slice A131_4 ((rd_T39 l0 x15_1).f4).length c131_4)) (ds := []) #[false, false, false, false, false, false, false] (by kernel_rfl) rfl rfl ⟨(blk_cell BK132.out 0).trans rfl, (blk_cell BK132.out 1).trans rfl, (blk_cell BK132.out 2).trans rfl, (blk_cell BK132.out 3).trans rfl, (blk_cell BK132.out 4).trans rfl⟩ (fun hHeld => ?_)
          generalize w20.drew = w21 at HO_4 HO135 HO139 BK132 HB hHeld ⊢
          refine Cz.rP 0 43 ?_
          refine Cz.rP 1 44 ?_
          refine Cz.rP 3 46 ?_
          refine take_ (i := 4) (N := some 47) (v := ?_) (a' := ?_) #[true, true, false, true, true, false, false] rfl rfl (by kernel_rfl) (fun _ _ _ h => h) (Or.inl ⟨by rfl, ?_⟩) hHeld ?_ ?_
          rotate_left
          ·rintro w' ⟨s0, s1, s2, s3, s4⟩
           go_simp
           with_reducible rfl
          rotate_left
          ·simp only [Act.put, Kx.sb, Kx.sz, Kx.ss, i64_w, i32_w]
           rfl
          refine Cz.rO (N := some 45) 2 (fun K hK => ?_)
          refine Kd.R_append_rows_step (Kd.int .u8) (w0 := w) w.heap.size (by rfl) (.tmp 43) (.tmp 44) 23 5 (.int .u8 0) 1 rfl Try.underlying23 info5 rfl (by decide) (by omega) u4 x4_1 t136 _ _ _ (fun k_ => some k_ ≠ (.slice Ao23 t136.length co23 : Value).ownBlock) (fun _ => False) rfl rfl ?aO ?aR (fun _ _ h => h) (fun _ h => h.elim) ?aF ?aB ?aS ?aL ?_
          (case aR => repeat (first | exact (Kd.R_reads' HO139.out).2.2 | (with_reducible refine Kd.C_alloc ?_ _) | (with_reducible refine Kd.C_drewN ?_ _) | (with_reducible refine Kd.C_drew ?_)))
          (case aB => exact (Cz.bl (w := w)))
          (case aF => exact (fun k_ hk => Kd.fresh' (Kd.R_lt (by (with_reducible repeat (first | apply Kd.R_alloc | apply Kd.R_drewN | apply Kd.R_drew)); exact HO139.out)) k_ hk))
          (case aO => exact (by (with_reducible repeat (first | apply Kd.R_alloc | apply Kd.R_drewN | apply Kd.R_drew)); exact Kd.R_mono HO_4.out (fun _ hk => hk.2)))
          (case aS => exact (below_size (Cz.bl (w := w))))
          (case aL => have := LMc11.out; omega)
          intro v142 w22 ho hb hg hat
          rw [← Ny141.out] at ho
          have HO143 := Aside0.mk (ho)
          replace BK132 := Cz.bw BK132 hg (Kd.R_ne HO_4.out BK132.out (by decide))
          replace HO135 := Aside0.mk (Kd.R_over' (by (with_reducible repeat (first | apply Kd.R_alloc | apply Kd.R_drewN | apply Kd.R_drew)); exact HO135.out) (Kd.R_typed (by (with_reducible repeat (first | apply Kd.R_alloc | apply Kd.R_drewN | apply Kd.R_drew)); exact HO_4.out)) (by decide) hg)
          replace HO139 := Aside0.mk (Kd.R_after (ok := (fun _ => True)) (by (with_reducible repeat (first | apply Kd.R_alloc | apply Kd.R_drewN | apply Kd.R_drew)); exact HO139.out) hg hat)
          replace HB := Aside0.mk (hb)
          clear HO_4
          clear ho hb hg hat
          refine hK.out _ _ ⟨(blk_cell BK132.out 0).trans rfl, (blk_cell BK132.out 1).trans rfl, (blk_cell BK132.out 2).trans rfl, (blk_cell BK132.out 3).trans rfl, (blk_cell BK132.out 4).trans rfl⟩ (fun hHeld => ?_)
          clear hK K
          refine norm_ (a' := ?_) ?_ ?_
          rotate_left
          ·show Act.put _ (some 45) _ = _
           simp only [Act.put, Kx.sb, Kx.sz, Kx.ss, i64_w, i32_w]
           rfl
          refine Cz.rO (N := some 48) 5 (fun K hK => ?_)
          refine Kd.R_append_rows_step (Kd.int .u8) (w0 := w) w.heap.size (by rfl) (.tmp 45) (.tmp 47) 23 5 (.int .u8 0) 1 rfl Try.underlying23 info5 rfl (by decide) (by omega) v142 y141 ((rd_T39 l0 x15_1).f4) _ _ _ (fun k_ => some k_ ≠ (.slice Ao23 t136.length co23 : Value).ownBlock) (fun _ => False) rfl rfl ?aO ?aR (fun _ _ h => h) (fun _ h => h.elim) ?aF ?aB ?aS ?aL ?_
          (case aR => exact Cz.cb HR131_4)
          (case aB => exact (Cz.bl (w := w)))
          (case aF => exact (fun k_ hk => Kd.fresh' (Kd.R_lt (by (with_reducible repeat (first | apply Kd.R_alloc | apply Kd.R_drewN | apply Kd.R_drew)); exact HO139.out)) k_ hk))
          (case aO => exact (by (with_reducible repeat (first | apply Kd.R_alloc | apply Kd.R_drewN | apply Kd.R_drew)); exact HO143.out))
          (case aS => exact (below_size (Cz.bl (w := w))))
          (case aL => have := LMc12.out; omega)
          intro v145 w24 ho hb hg hat
          rw [← Ny144.out] at ho
          have HO146 := Aside0.mk (ho)
          replace BK132 := Cz.bw BK132 hg (Kd.R_ne HO143.out BK132.out (by decide))
          replace HO135 := Aside0.mk (Kd.R_over' (by (with_reducible repeat (first | apply Kd.R_alloc | apply Kd.R_drewN | apply Kd.R_drew)); exact HO135.out) (Kd.R_typed (by (with_reducible repeat (first | apply Kd.R_alloc | apply Kd.R_drewN | apply Kd.R_drew)); exact HO143.out)) (by decide) hg)
          replace HO139 := Aside0.mk (Kd.R_after (ok := (fun _ => True)) (by (with_reducible repeat (first | apply Kd.R_alloc | apply Kd.R_drewN | apply Kd.R_drew)); exact HO139.out) hg hat)
          replace HB := Aside0.mk (hb)
          clear HO143
          clear ho hb hg hat
          refine hK.out _ _ ⟨(blk_cell BK132.out 0).trans rfl, (blk_cell BK132.out 1).trans rfl, (blk_cell BK132.out 2).trans rfl, (blk_cell BK132.out 3).trans rfl, (blk_cell BK132.out 4).trans rfl⟩ (fun hHeld => ?_)
          clear hK K
          refine norm_ (a' := ?_) ?_ ?_
          rotate_left
          ·show Act.put _ (some 48) _ = _
           simp only [Act.put, Kx.sb, Kx.sz, Kx.ss, i64_w, i32_w]
           rfl
          refine Cz.rP 6 4 ?_
          refine done_ (by kernel_rfl) ?_
          try go_wp2
          go_roundg k1
          case measure => have := HK1.out; omega
          case rel => exact ⟨(y144), (wrap64 (x15_1 + 1)), Cz.si, H', ⟨by have := HK1.out; omega⟩, ⟨by (with_reducible repeat (first | apply Kd.R_alloc | apply Kd.R_drewN | apply Kd.R_drew)); exact Kd.R_mono HO146.out (fun _ hk => trivial)⟩, ⟨Cz.bl (w := w)⟩⟩
         ·rw [if_neg c12] at H
          exact absurd H (by simp)
        ·rw [if_neg c11] at H
         exact absurd H (by simp)
       ·rw [if_neg c10] at H
        have c10b0 : (t137 == 0) = false := beq_eq_false_iff_ne.mpr c10
        have c10b1 : (t137 != 0) = true := bne_iff_ne.mpr c10
        simp only [Option.some.injEq, Prod.mk.injEq] at H
        obtain ⟨rfl, rfl⟩ := H
        have p131 : 0 ≤ (x15_1 : Int) := of_decide_eq_true (by first | (with_reducible assumption) | assumption)
        have q131 : x15_1 < (l0.length : Int) := of_decide_eq_true (by first | (with_reducible assumption) | assumption)
        obtain ⟨ad131, A131_4, c131_4, e131, hx131_0, hx131_1, hx131_2, hx131_3, hx131_4, hl131_4, hi131_4⟩ := at_T39 HR0.out x15_1 p131 q131
        cases e131
        replace hx131_0 := (HB.out.cell (World.block_lt_of_cell? w _ hx131_0)).trans hx131_0
        replace hx131_1 := (HB.out.cell (World.block_lt_of_cell? w _ hx131_1)).trans hx131_1
        replace hx131_2 := (HB.out.cell (World.block_lt_of_cell? w _ hx131_2)).trans hx131_2
        replace hx131_3 := (HB.out.cell (World.block_lt_of_cell? w _ hx131_3)).trans hx131_3
        replace hx131_4 := (HB.out.cell (World.block_lt_of_cell? w _ hx131_4)).trans hx131_4
        have HR131_4 := Aside0.mk hi131_4
        have HC131_4 := Aside0.mk hl131_4
        clear hi131_4 hl131_4
        replace p131 := eq_true p131
        replace q131 := eq_true q131
        go_wp2_with (first | ((with_reducible refine gate_dst (N := 6) rfl ?_); refine Cz.bx (N := 6) #[.int .i64 0, .int .i64 0, .int .i64 0, .int .i64 0, .slice none 0 0] 39 ?_; intro gb132 hg w25 hbox hb; have BK132 := Aside0.mk (hbox); have GW132 := Aside0.mk ((Cz.gs hg : w.heap.size ≤ gb132)); have GE132 := GW132; replace HO_4 := Cz.rb HO_4 hb; replace HB := Cz.bs (w := w) hb; clear hb hbox hg; obtain ⟨z26_0, z26_1, z26_2, z26_3, z26_4, y26_0, y26_1, y26_2, y26_3, y26_4⟩ := Cz.d5 BK132) | ((with_reducible refine gate_dst (N := 32) rfl ?_); refine Kd.R_lit (Kd.int .u64) _ 44 ?hg (N := 32) ?hd (xs := ([IntKind.u64.wrap ((rd_T39 l0 x15_1).f0), IntKind.u64.wrap ((rd_T39 l0 x15_1).f1), IntKind.u64.wrap ((rd_T39 l0 x15_1).f2), IntKind.u64.wrap ((rd_T39 l0 x15_1).f3)] : List Int)) (inner := [.int .u64 (IntKind.u64.wrap ((rd_T39 l0 x15_1).f0)), .int .u64 (IntKind.u64.wrap ((rd_T39 l0 x15_1).f1)), .int .u64 (IntKind.u64.wrap ((rd_T39 l0 x15_1).f2)), .int .u64 (IntKind.u64.wrap ((rd_T39 l0 x15_1).f3))]) (ok := fun _ => True) (okp := fun _ => True) ?hr ?hp (fun _ hk => hk) trivial (Below.refl _ _) (Nat.le_refl _) (by simp) ?_; (case hd => rfl); (case hg => rfl); (case hr => first | (go_simp; done) | (go_simp; rfl)); (case hp => exact (Reps.one (show Kd.M (Kd.int .u64) _ _ _ (IntKind.u64.wrap ((rd_T39 l0 x15_1).f0)) [.int .u64 (IntKind.u64.wrap ((rd_T39 l0 x15_1).f0))] from rfl) (Reps.one (show Kd.M (Kd.int .u64) _ _ _ (IntKind.u64.wrap ((rd_T39 l0 x15_1).f1)) [.int .u64 (IntKind.u64.wrap ((rd_T39 l0 x15_1).f1))] from rfl) (Reps.one (show Kd.M (Kd.int .u64) _ _ _ (IntKind.u64.wrap ((rd_T39 l0 x15_1).f2)) [.int .u64 (IntKind.u64.wrap ((rd_T39 l0 x15_1).f2))] from rfl) (Reps.one (show Kd.M (Kd.int .u64) _ _ _ (IntKind.u64.wrap ((rd_T39 l0 x15_1).f3)) [.int .u64 (IntKind.u64.wrap ((rd_T39 l0 x15_1).f3))] from rfl) (Reps.none _ _)))))); intro v134 w27 ho28 hb hg_ hnew_; clear hg_ hnew_; (first | rw [← Ny133.out] at ho28 | (simp only [Int.reduceToNat] at ho28; rw [← Ny133.out] at ho28)); have HO135 := Aside0.mk (Kd.R_lower ho28 (below_size (Cz.bl (w := w)))); replace HO_4 := Aside0.mk (Kd.R_below (by (with_reducible repeat (first | apply Kd.R_alloc | apply Kd.R_drewN | apply Kd.R_drew)); exact (Kd.R_mono (Cz.rf (Cz.rf (Cz.rf (Cz.rf (Cz.rf (Kd.R_types HO_4.out BK132.out (by decide))))))) (fun _ h_ => h_.1))) hb); replace BK132 := Aside0.mk (blk_below (g := gb132) (o := .cells #[.int .i64 ((rd_T39 l0 x15_1).f0), .int .i64 ((rd_T39 l0 x15_1).f1), .int .i64 ((rd_T39 l0 x15_1).f2), .int .i64 ((rd_T39 l0 x15_1).f3), .slice A131_4 ((rd_T39 l0 x15_1).f4).length c131_4] 39 (0, 0)) (by (with_reducible repeat (first | refine blk_drewN ?_ _ | refine blk_drew ?_ | refine blk_alloc ?_ _)); apply Cz.a5; (with_reducible repeat (first | refine blk_drewN ?_ _ | refine blk_drew ?_ | refine blk_alloc ?_ _)); exact BK132.out) hb); replace HB := Cz.bs (w := w) hb; clear hb ho28; obtain ⟨Ao29, co29, eo29⟩ := Kd.R_slice HO135.out; subst eo29) | ((with_reducible refine gate_callee (f := 20) rfl ?_); refine Cz.gL (N := (some 33)) Try.func20 #[.string (⟨#[98, 98, 98, 119]⟩ : ByteArray), .slice Ao29 y133.length co29] ?_; (with_reducible refine (le_Pack.calls (⟨#[98, 98, 98, 119]⟩ : ByteArray) _ _ y133 t136 t137 _ ?side1 ?side2 A7.out).mono ?_); (case side1 => repeat (first | exact (Kd.R_reads' HO135.out).2.2 | (with_reducible refine Kd.C_alloc ?_ _) | (with_reducible refine Kd.C_drewN ?_ _) | (with_reducible refine Kd.C_drew ?_))); (case side2 => exact (Kd.R_reads' HO135.out).2.1); rintro e w30 ⟨v138, rfl, ho0, hb⟩; refine ⟨_, rfl, ?_⟩; have HO139 := Aside0.mk (Kd.R_lower (Kd.R_new' ho0 (Kd.R_lt (by (with_reducible repeat (first | apply Kd.R_alloc | apply Kd.R_drewN | apply Kd.R_drew)); exact HO_4.out))) (below_size (Cz.bl (w := w)))); replace HO_4 := Aside0.mk (Kd.R_elder' (Cz.rq HO_4) (Kd.R_base ho0) hb); replace HO135 := Cz.rb HO135 hb; replace BK132 := Cz.bk BK132 hb; replace HB := Cz.bs (w := w) hb; (try clear hb); (try clear ho0); have z31_0 : w30.cell? ⟨gb132, 0, none⟩ = some (.int .i64 ((rd_T39 l0 x15_1).f0)) := (blk_cell BK132.out 0).trans rfl; have z31_1 : w30.cell? ⟨gb132, 1, none⟩ = some (.int .i64 ((rd_T39 l0 x15_1).f1)) := (blk_cell BK132.out 1).trans rfl; have z31_2 : w30.cell? ⟨gb132, 2, none⟩ = some (.int .i64 ((rd_T39 l0 x15_1).f2)) := (blk_cell BK132.out 2).trans rfl; have z31_3 : w30.cell? ⟨gb132, 3, none⟩ = some (.int .i64 ((rd_T39 l0 x15_1).f3)) := (blk_cell BK132.out 3).trans rfl; have z31_4 : w30.cell? ⟨gb132, 4, none⟩ = some (.slice A131_4 ((rd_T39 l0 x15_1).f4).length c131_4) := (blk_cell BK132.out 4).trans rfl; obtain ⟨y31_0, y31_1, y31_2, y31_3, y31_4⟩ := Cz.f5 BK132) | ((with_reducible refine gate_callee (f := 36) rfl ?_); refine Cz.gL (N := (some 37)) Try.func36 #[.agg #[.int .i64 ((rd_T39 l0 x15_1).f0), .int .i64 ((rd_T39 l0 x15_1).f1), .int .i64 ((rd_T39 l0 x15_1).f2), .int .i64 ((rd_T39 l0 x15_1).f3), .slice A131_4 ((rd_T39 l0 x15_1).f4).length c131_4]] ?_; (with_reducible refine (extent_Check.calls ((rd_T39 l0 x15_1).f0) ((rd_T39 l0 x15_1).f1) ((rd_T39 l0 x15_1).f2) ((rd_T39 l0 x15_1).f3) _ _ ((rd_T39 l0 x15_1).f4) true _ ?side1 ?side2 A8.out).mono ?_); (case side1 => exact Cz.cb HR131_4); (case side2 => exact HC131_4.out); rintro e w32 ⟨rfl, hb⟩; refine ⟨_, rfl, ?_⟩; replace HO_4 := Cz.rb HO_4 hb; replace HO135 := Cz.rb HO135 hb; replace HO139 := Cz.rb HO139 hb; replace BK132 := Cz.bk BK132 hb; replace HB := Cz.bs (w := w) hb; (try clear hb)))
        go_ret2
        exact ⟨_, Cz.er, by first | exact Kd.R_nil _ _ _ _ _ | exact Kd.N_nil _ _ _ _ _ | exact Kd.V_nil _ _ _ _ _ | exact Kd.Q_nil _ _ _ _ _ | exact Kd.S_nil _ _ _ _ _, Cz.bl (w := w)⟩
      ·replace c9 := Bool.eq_false_iff.mpr c9
       subst c9
       rw [if_neg (show ¬ (false = true) by decide)] at H
       simp only [Option.some.injEq, Prod.mk.injEq] at H
       obtain ⟨rfl, rfl⟩ := H
       have p131 : 0 ≤ (x15_1 : Int) := of_decide_eq_true (by first | (with_reducible assumption) | assumption)
       have q131 : x15_1 < (l0.length : Int) := of_decide_eq_true (by first | (with_reducible assumption) | assumption)
       obtain ⟨ad131, A131_4, c131_4, e131, hx131_0, hx131_1, hx131_2, hx131_3, hx131_4, hl131_4, hi131_4⟩ := at_T39 HR0.out x15_1 p131 q131
       cases e131
       replace hx131_0 := (HB.out.cell (World.block_lt_of_cell? w _ hx131_0)).trans hx131_0
       replace hx131_1 := (HB.out.cell (World.block_lt_of_cell? w _ hx131_1)).trans hx131_1
       replace hx131_2 := (HB.out.cell (World.block_lt_of_cell? w _ hx131_2)).trans hx131_2
       replace hx131_3 := (HB.out.cell (World.block_lt_of_cell? w _ hx131_3)).trans hx131_3
       replace hx131_4 := (HB.out.cell (World.block_lt_of_cell? w _ hx131_4)).trans hx131_4
       have HR131_4 := Aside0.mk hi131_4
       have HC131_4 := Aside0.mk hl131_4
       clear hi131_4 hl131_4
       replace p131 := eq_true p131
       replace q131 := eq_true q131
       go_wp2_with (first | ((with_reducible refine gate_dst (N := 6) rfl ?_); refine Cz.bx (N := 6) #[.int .i64 0, .int .i64 0, .int .i64 0, .int .i64 0, .slice none 0 0] 39 ?_; intro gb132 hg w33 hbox hb; have BK132 := Aside0.mk (hbox); have GW132 := Aside0.mk ((Cz.gs hg : w.heap.size ≤ gb132)); have GE132 := GW132; replace HO_4 := Cz.rb HO_4 hb; replace HB := Cz.bs (w := w) hb; clear hb hbox hg; obtain ⟨z34_0, z34_1, z34_2, z34_3, z34_4, y34_0, y34_1, y34_2, y34_3, y34_4⟩ := Cz.d5 BK132) | ((with_reducible refine gate_dst (N := 32) rfl ?_); refine Kd.R_lit (Kd.int .u64) _ 44 ?hg (N := 32) ?hd (xs := ([IntKind.u64.wrap ((rd_T39 l0 x15_1).f0), IntKind.u64.wrap ((rd_T39 l0 x15_1).f1), IntKind.u64.wrap ((rd_T39 l0 x15_1).f2), IntKind.u64.wrap ((rd_T39 l0 x15_1).f3)] : List Int)) (inner := [.int .u64 (IntKind.u64.wrap ((rd_T39 l0 x15_1).f0)), .int .u64 (IntKind.u64.wrap ((rd_T39 l0 x15_1).f1)), .int .u64 (IntKind.u64.wrap ((rd_T39 l0 x15_1).f2)), .int .u64 (IntKind.u64.wrap ((rd_T39 l0 x15_1).f3))]) (ok := fun _ => True) (okp := fun _ => True) ?hr ?hp (fun _ hk => hk) trivial (Below.refl _ _) (Nat.le_refl _) (by simp) ?_; (case hd => rfl); (case hg => rfl); (case hr => first | (go_simp; done) | (go_simp; rfl)); (case hp => exact (Reps.one (show Kd.M (Kd.int .u64) _ _ _ (IntKind.u64.wrap ((rd_T39 l0 x15_1).f0)) [.int .u64 (IntKind.u64.wrap ((rd_T39 l0 x15_1).f0))] from rfl) (Reps.one (show Kd.M (Kd.int .u64) _ _ _ (IntKind.u64.wrap ((rd_T39 l0 x15_1).f1)) [.int .u64 (IntKind.u64.wrap ((rd_T39 l0 x15_1).f1))] from rfl) (Reps.one (show Kd.M (Kd.int .u64) _ _ _ (IntKind.u64.wrap ((rd_T39 l0 x15_1).f2)) [.int .u64 (IntKind.u64.wrap ((rd_T39 l0 x15_1).f2))] from rfl) (Reps.one (show Kd.M (Kd.int .u64) _ _ _ (IntKind.u64.wrap ((rd_T39 l0 x15_1).f3)) [.int .u64 (IntKind.u64.wrap ((rd_T39 l0 x15_1).f3))] from rfl) (Reps.none _ _)))))); intro v134 w35 ho36 hb hg_ hnew_; clear hg_ hnew_; (first | rw [← Ny133.out] at ho36 | (simp only [Int.reduceToNat] at ho36; rw [← Ny133.out] at ho36)); have HO135 := Aside0.mk (Kd.R_lower ho36 (below_size (Cz.bl (w := w)))); replace HO_4 := Aside0.mk (Kd.R_below (by (with_reducible repeat (first | apply Kd.R_alloc | apply Kd.R_drewN | apply Kd.R_drew)); exact (Kd.R_mono (Cz.rf (Cz.rf (Cz.rf (Cz.rf (Cz.rf (Kd.R_types HO_4.out BK132.out (by decide))))))) (fun _ h_ => h_.1))) hb); replace BK132 := Aside0.mk (blk_below (g := gb132) (o := .cells #[.int .i64 ((rd_T39 l0 x15_1).f0), .int .i64 ((rd_T39 l0 x15_1).f1), .int .i64 ((rd_T39 l0 x15_1).f2), .int .i64 ((rd_T39 l0 x15_1).f3), .slice A131_4 ((rd_T39 l0 x15_1).f4).length c131_4] 39 (0, 0)) (by (with_reducible repeat (first | refine blk_drewN ?_ _ | refine blk_drew ?_ | refine blk_alloc ?_ _)); apply Cz.a5; (with_reducible repeat (first | refine blk_drewN ?_ _ | refine blk_drew ?_ | refine blk_alloc ?_ _)); exact BK132.out) hb); replace HB := Cz.bs (w := w) hb; clear hb ho36; obtain ⟨Ao37, co37, eo37⟩ := Kd.R_slice HO135.out; subst eo37) | ((with_reducible refine gate_callee (f := 20) rfl ?_); refine Cz.gL (N := (some 33)) Try.func20 #[.string (⟨#[98, 98, 98, 119]⟩ : ByteArray), .slice Ao37 y133.length co37] ?_; (with_reducible refine (le_Pack.calls (⟨#[98, 98, 98, 119]⟩ : ByteArray) _ _ y133 t136 t137 _ ?side1 ?side2 A7.out).mono ?_); (case side1 => repeat (first | exact (Kd.R_reads' HO135.out).2.2 | (with_reducible refine Kd.C_alloc ?_ _) | (with_reducible refine Kd.C_drewN ?_ _) | (with_reducible refine Kd.C_drew ?_))); (case side2 => exact (Kd.R_reads' HO135.out).2.1); rintro e w38 ⟨v138, rfl, ho0, hb⟩; refine ⟨_, rfl, ?_⟩; have HO139 := Aside0.mk (Kd.R_lower (Kd.R_new' ho0 (Kd.R_lt (by (with_reducible repeat (first | apply Kd.R_alloc | apply Kd.R_drewN | apply Kd.R_drew)); exact HO_4.out))) (below_size (Cz.bl (w := w)))); replace HO_4 := Aside0.mk (Kd.R_elder' (Cz.rq HO_4) (Kd.R_base ho0) hb); replace HO135 := Cz.rb HO135 hb; replace BK132 := Cz.bk BK132 hb; replace HB := Cz.bs (w := w) hb; (try clear hb); (try clear ho0); have z39_0 : w38.cell? ⟨gb132, 0, none⟩ = some (.int .i64 ((rd_T39 l0 x15_1).f0)) := (blk_cell BK132.out 0).trans rfl; have z39_1 : w38.cell? ⟨gb132, 1, none⟩ = some (.int .i64 ((rd_T39 l0 x15_1).f1)) := (blk_cell BK132.out 1).trans rfl; have z39_2 : w38.cell? ⟨gb132, 2, none⟩ = some (.int .i64 ((rd_T39 l0 x15_1).f2)) := (blk_cell BK132.out 2).trans rfl; have z39_3 : w38.cell? ⟨gb132, 3, none⟩ = some (.int .i64 ((rd_T39 l0 x15_1).f3)) := (blk_cell BK132.out 3).trans rfl; have z39_4 : w38.cell? ⟨gb132, 4, none⟩ = some (.slice A131_4 ((rd_T39 l0 x15_1).f4).length c131_4) := (blk_cell BK132.out 4).trans rfl; obtain ⟨y39_0, y39_1, y39_2, y39_3, y39_4⟩ := Cz.f5 BK132) | ((with_reducible refine gate_callee (f := 36) rfl ?_); refine Cz.gL (N := (some 37)) Try.func36 #[.agg #[.int .i64 ((rd_T39 l0 x15_1).f0), .int .i64 ((rd_T39 l0 x15_1).f1), .int .i64 ((rd_T39 l0 x15_1).f2), .int .i64 ((rd_T39 l0 x15_1).f3), .slice A131_4 ((rd_T39 l0 x15_1).f4).length c131_4]] ?_; (with_reducible refine (extent_Check.calls ((rd_T39 l0 x15_1).f0) ((rd_T39 l0 x15_1).f1) ((rd_T39 l0 x15_1).f2) ((rd_T39 l0 x15_1).f3) _ _ ((rd_T39 l0 x15_1).f4) false _ ?side1 ?side2 A8.out).mono ?_); (case side1 => exact Cz.cb HR131_4); (case side2 => exact HC131_4.out); rintro e w40 ⟨rfl, hb⟩; refine ⟨_, rfl, ?_⟩; replace HO_4 := Cz.rb HO_4 hb; replace HO135 := Cz.rb HO135 hb; replace HO139 := Cz.rb HO139 hb; replace BK132 := Cz.bk BK132 hb; replace HB := Cz.bs (w := w) hb; (try clear hb)))
       go_ret2
       exact ⟨_, Cz.er, by first | exact Kd.R_nil _ _ _ _ _ | exact Kd.N_nil _ _ _ _ _ | exact Kd.V_nil _ _ _ _ _ | exact Kd.Q_nil _ _ _ _ _ | exact Kd.S_nil _ _ _ _ _, Cz.bl (w := w)⟩
     ·rw [if_neg c6] at H
      exact absurd H (by simp)
    ·rw [if_neg c5] at H
     exact absurd H (by simp)
   ·rw [if_neg c4] at H
    have c4b0 : decide (x15_1 < (l0.length : Int)) = false := decide_eq_false c4
    clear c4
    by_cases c41 : (l0.length : Int) > 64
    ·rw [if_pos c41] at H
     have c41b0 : decide (64 < (l0.length : Int)) = true := decide_eq_true c41
     have c41b1 : decide (64 < l0.length) = true := decide_eq_true (by omega)
     clear c41
     simp only [Option.some.injEq, Prod.mk.injEq] at H
     obtain ⟨rfl, rfl⟩ := H
     go_wp2
     go_ret2
     exact ⟨_, Cz.er, by first | exact Kd.R_nil _ _ _ _ _ | exact Kd.N_nil _ _ _ _ _ | exact Kd.V_nil _ _ _ _ _ | exact Kd.Q_nil _ _ _ _ _ | exact Kd.S_nil _ _ _ _ _, Cz.bl (w := w)⟩
    ·rw [if_neg c41] at H
     have c41b0 : decide (64 < (l0.length : Int)) = false := decide_eq_false c41
     have c41b1 : decide (64 < l0.length) = false := decide_eq_false (by omega)
     clear c41
     simp only [Option.some.injEq, Prod.mk.injEq] at H
     obtain ⟨rfl, rfl⟩ := H
     go_wp2
     go_ret2
     exact ⟨_, Cz.er, Cz.rh, Cz.bl (w := w)⟩
def extent_Write.f (l0 : List S39) : Option (List Int × Int) := if l0.length < 1073741824 then some (Pl.ewriteS (l0.map toE)) else none
theorem extent_Write.tells {l0 : List S39} (h : l0.length < 1073741824) : extent_Write.f l0 = some (Pl.ewriteS (l0.map toE)) := if_pos h
theorem extent_Write.pack (a n k g : Int) : ∃ r e, le_Pack.f (⟨#[98, 98, 98, 119]⟩ : ByteArray) [IntKind.u64.wrap a, IntKind.u64.wrap n, IntKind.u64.wrap k, IntKind.u64.wrap g] = some (r, e) ∧ ∀ d, Pl.extOk a n k g d = true → r = Pl.extHead a n k g ∧ e = 0 := by
 unfold le_Pack.f
 rw [if_pos ⟨Pl.u64B_iff.2 (by
  intro x hx
  simp only [List.mem_cons, List.not_mem_nil, or_false] at hx
  rcases hx with rfl | rfl | rfl | rfl <;> rw [IntKind.wrap_u64] <;> omega), by decide⟩, show Pl.fb (⟨#[98, 98, 98, 119]⟩ : ByteArray) = Pl.extForm from by kernel_rfl]
 refine ⟨(Pl.packS Pl.extForm [IntKind.u64.wrap a, IntKind.u64.wrap n, IntKind.u64.wrap k, IntKind.u64.wrap g]).1, (Pl.packS Pl.extForm [IntKind.u64.wrap a, IntKind.u64.wrap n, IntKind.u64.wrap k, IntKind.u64.wrap g]).2, rfl, fun d h => ?_⟩
 obtain ⟨p0, p1, p2, p3, q0, q1, q2, q3⟩ := Pl.ext_lt h
 rw [show IntKind.u64.wrap a = a by rw [IntKind.wrap_u64]; omega, show IntKind.u64.wrap n = n by rw [IntKind.wrap_u64]; omega, show IntKind.u64.wrap k = k by rw [IntKind.wrap_u64]; omega, show IntKind.u64.wrap g = g by rw [IntKind.wrap_u64]; omega, Pl.packS_some (Pl.packP_ext p0 p1 p2 p3)]
 exact ⟨rfl, rfl⟩
theorem extent_Write.loop {l0 : List S39} (h2 : l0.length < 1073741824) : ∀ (d k i : Nat) (out : List Int), l0.length - i = d → i ≤ l0.length → d < k → out.length ≤ 1 + 2055 * i → extent_Write_p.l0 k l0 out l0 (l0.length : Int) (i : Int) = some (if ((l0.drop i).map toE).all Pl.eOk = true then (if l0.length > 64 then ([], 70) else (out ++ Pl.extsB ((l0.drop i).map toE), 0)) else ([], 70))
 | 0, k, i, out, hd, hi, hk, ho => by
  obtain ⟨k, rfl⟩ : ∃ m, k = m + 1 := ⟨k - 1, by omega⟩
  rw [extent_Write_p.l0, if_neg (by omega), List.drop_of_length_le (by omega), List.map_nil, Pl.extsB, List.append_nil, if_pos (show List.all [] Pl.eOk = true from rfl)]
  by_cases h : l0.length > 64
  ·rw [if_pos (by omega), if_pos h]
  ·rw [if_neg (by omega), if_neg h]
 | d + 1, k, i, out, hd, hi, hk, ho => by
  obtain ⟨k, rfl⟩ : ∃ m, k = m + 1 := ⟨k - 1, by omega⟩
  have hi0 : i < l0.length := by omega
  obtain ⟨r, e, hp, hre⟩ := extent_Write.pack l0[i].f0 l0[i].f1 l0[i].f2 l0[i].f3
  rw [extent_Write_p.l0, if_pos (by omega), if_pos (by omega), if_pos (by omega), rd_getE l0 i hi0, hp, Option.bind_some, extent_Check.tells, Option.bind_some, List.drop_eq_getElem_cons hi0, List.map_cons, List.all_cons]
  by_cases hok : Pl.extOk l0[i].f0 l0[i].f1 l0[i].f2 l0[i].f3 l0[i].f4 = true
  ·obtain ⟨rfl, rfl⟩ := hre _ hok
   have hl := Pl.extOk_len hok
   rw [if_pos hok, if_pos rfl, if_pos (by rw [Pl.extHead_length]; omega), Option.bind_some, if_pos (by rw [List.length_append, Pl.extHead_length]; omega), show wrap64 ((i : Int) + 1) = ((i + 1 : Nat) : Int) by unfold wrap64; omega,
    extent_Write.loop h2 d k (i + 1) _ (by omega) (by omega) (by omega) (by rw [List.length_append, List.length_append, Pl.extHead_length]; omega), show Pl.eOk (toE l0[i]) = true from hok, Bool.true_and, Pl.extsB]
   rw [show Pl.extW (toE l0[i]) = Pl.extHead l0[i].f0 l0[i].f1 l0[i].f2 l0[i].f3 ++ l0[i].f4 from rfl, List.append_assoc, List.append_assoc, List.append_assoc]
  ·rw [if_neg hok, show Pl.eOk (toE l0[i]) = false from Bool.eq_false_iff.2 hok, Bool.false_and, if_neg (by decide)]
theorem extent_Write.closes {l0 : List S39} {r : List Int × Int} (h : extent_Write.f l0 = some r) : extent_Write_p.f (l0.length + 1) l0 = some r := by
 unfold extent_Write.f at h
 split at h
 case isFalse => cases h
 rename_i h2
 rw [← h]
 unfold extent_Write_p.f
 have := extent_Write.loop h2 l0.length (l0.length + 1) 0 [((l0.length : Int)) % 256] (by omega) (by omega) (by omega) (by simp)
 rw [List.drop_zero] at this
 rw [show (0 : Int) = ((0 : Nat) : Int) from rfl, this, Pl.ewriteS, Pl.eAll, List.length_map]
 by_cases ha : (l0.map toE).all Pl.eOk = true
 ·rw [if_pos ha, ha, Bool.and_true]
  by_cases h6 : l0.length > 64
  ·rw [if_pos h6, if_neg (by simp; omega)]
  ·rw [if_neg h6, if_pos (by simp; omega), Pl.extsW, List.length_map, show ((l0.length : Int)) % 256 = (l0.length : Int) by omega]
   rfl
 ·rw [if_neg ha, Bool.eq_false_iff.2 ha, Bool.and_false, if_neg (by decide)]
theorem extent_Write.calls (A0 : Option Addr) (c0 : Nat) (l0 : List (S39)) (r1 : List Int) (r2 : Int) (w : World) (hr0 : Kd.C k39 w A0 l0.length l0) (hc0 : l0.length ≤ c0) (h : extent_Write.f l0 = some (r1, r2)) :
  Calls Try.prog 21 #[.slice A0 l0.length c0] w fun e w' => ∃ v0_ : Value, e = .returned (.tuple #[v0_, .int .i64 r2]) ∧ Kd.R (Kd.int .u8) 5 w' w.heap.size (fun _ => True) v0_ r1 ∧ Below w.heap.size w w' :=
 extent_Write_p.calls (l0.length + 1) A0 c0 l0 r1 r2 w hr0 hc0 (extent_Write.closes h)
end Go.Proofs.Ytmgohkffphogdaa.PU
