/- Words and walks that this claim names, of those that the kit's print and programs of this workplace have printed. -/
import Derived.Test.YtmgohkffphogdaaZUCz
import Derived.Test.YtmgohkffphogdaaZUPUx15
import Derived.Test.YtmgohkffphogdaaZUPUx18
import Derived.Test.YtmgohkffphogdaaZUPUx19
namespace Go.Proofs.Ytmgohkffphogdaa.PU
open Go.Proofs.Ytmgohkffphogdaa Go.RowKit Go.Proofs.YtmgohkffphogdaaW.PrintWords Go.Proofs.YtmgohkffphogdaaW.PrintLast Go.Proofs.YtmgohkffphogdaaW.PrintMore
attribute [local go_sem] max2_int min2_int max_two min_two max_three min_three max_four min_four
set_option linter.unusedVariables false
set_option linter.unusedSimpArgs false
def extent_Check.f (a0_0 a0_1 a0_2 a0_3 : Int) (l0_4 : List Int) : Option Bool := some (Pl.extOk a0_0 a0_1 a0_2 a0_3 l0_4)
theorem extent_Check.tells_p (a0_0 a0_1 a0_2 a0_3 : Int) (l0_4 : List Int) : extent_Check_p.f a0_0 a0_1 a0_2 a0_3 l0_4 = some (Pl.extOk a0_0 a0_1 a0_2 a0_3 l0_4) := by
 unfold extent_Check_p.f extent_within.f extent_data.f Pl.extOk
 by_cases h0 : a0_0 ≥ 0
 rotate_left
 ·rw [if_neg h0, Option.bind_some, if_neg (by decide), decide_eq_false (by omega)]
 rw [if_pos h0, Option.bind_some]
 by_cases h1 : a0_0 ≤ 64
 rotate_left
 ·rw [decide_eq_false h1, if_neg (by decide), decide_eq_false (by omega)]
 rw [decide_eq_true h1, if_pos rfl]
 have hw : wrap64 (64 - a0_0) = 64 - a0_0 := by unfold wrap64; omega
 rw [hw]
 by_cases h2 : a0_1 ≥ 1
 rotate_left
 ·rw [if_neg h2, Option.bind_some, if_neg (by decide), decide_eq_false (by omega)]
 rw [if_pos h2, Option.bind_some]
 by_cases h3 : a0_1 ≤ 64 - a0_0
 rotate_left
 ·rw [decide_eq_false h3, if_neg (by decide), decide_eq_false (by omega)]
 rw [decide_eq_true h3, if_pos rfl]
 by_cases h4 : a0_2 ≥ 0
 rotate_left
 ·rw [if_neg h4, Option.bind_some, if_neg (by decide), decide_eq_false (by omega)]
 rw [if_pos h4, Option.bind_some]
 by_cases h5 : a0_2 ≤ 2
 rotate_left
 ·rw [decide_eq_false h5, if_neg (by decide), decide_eq_false (by omega)]
 rw [decide_eq_true h5, if_pos rfl]
 by_cases h6 : a0_3 ≥ 0
 rotate_left
 ·rw [if_neg h6, Option.bind_some, if_neg (by decide), decide_eq_false (by omega)]
 rw [if_pos h6, Option.bind_some]
 by_cases h7 : a0_3 ≤ 2147483647
 rotate_left
 ·rw [decide_eq_false h7, if_neg (by decide), decide_eq_false (by omega)]
 rw [decide_eq_true h7, if_pos rfl]
 have hw2 : wrap64 (a0_1 * 32) = a0_1 * 32 := by unfold wrap64; omega
 rw [hw2]
 have e : (if a0_2 = 2 then some (a0_1 * 32) else some 0) = some (if a0_2 = 2 then a0_1 * 32 else 0) := by split <;> rfl
 rw [e, Option.bind_some, Option.some.injEq, Bool.eq_iff_iff, beq_iff_eq, decide_eq_true_eq]
 constructor
 ·intro h; exact ⟨h0, h1, h2, h3, h4, h5, h6, h7, h⟩
 ·intro h; exact h.2.2.2.2.2.2.2.2
theorem extent_Check.tells (a0_0 a0_1 a0_2 a0_3 : Int) (l0_4 : List Int) : extent_Check.f a0_0 a0_1 a0_2 a0_3 l0_4 = some (Pl.extOk a0_0 a0_1 a0_2 a0_3 l0_4) := rfl
theorem extent_Check.closes {a0_0 a0_1 a0_2 a0_3 : Int} {l0_4 : List Int} {r : Bool} (h : extent_Check.f a0_0 a0_1 a0_2 a0_3 l0_4 = some r) : extent_Check_p.f a0_0 a0_1 a0_2 a0_3 l0_4 = some r := (extent_Check.tells_p a0_0 a0_1 a0_2 a0_3 l0_4).trans h
theorem extent_Check.calls (a0_0 : Int) (a0_1 : Int) (a0_2 : Int) (a0_3 : Int) (A0_4 : Option Addr) (c0_4 : Nat) (l0_4 : List Int) (r : Bool) (w : World) (hr0_4 : Kd.C (Kd.int .u8) w A0_4 l0_4.length l0_4) (hc0_4 : l0_4.length ≤ c0_4) (h : extent_Check.f a0_0 a0_1 a0_2 a0_3 l0_4 = some r) :
  Calls Try.prog 36 #[.agg #[.int .i64 a0_0, .int .i64 a0_1, .int .i64 a0_2, .int .i64 a0_3, .slice A0_4 l0_4.length c0_4]] w fun e w' => e = .returned (.bool r) ∧ Below w.heap.size w w' :=
 extent_Check_p.calls a0_0 a0_1 a0_2 a0_3 A0_4 c0_4 l0_4 r w hr0_4 hc0_4 (extent_Check.closes h)
set_option maxHeartbeats 400000 in
set_option maxRecDepth 2000000 in
theorem change_kinds.calls (w : World) : Calls Try.prog 31 #[] w fun e w' => e = .returned (.agg #[.bool false, .bool false, .bool false, .nilFunc, .bool true, .bool false, .bool false, .func (.func 47) #[] #[], .bool true, .bool false, .bool false, .func (.func 45) #[] #[], .bool true, .bool false, .bool false, .func (.func 45) #[] #[], .bool false, .bool true, .bool false, .func (.func 45) #[] #[], .bool false, .bool true, .bool false, .func (.func 45) #[] #[], .bool false, .bool false, .bool false, .func (.func 46) #[] #[], .bool false, .bool false, .bool false, .func (.func 45) #[] #[], .bool false, .bool true, .bool true, .func (.func 45) #[] #[]]) ∧ Below w.heap.size w w' := by
 have hu57 := Try.underlying57
 have hu58 := Try.underlying58
 have b57_1 : ∀ w : World, (Instr.build 57 #[(0, .bool true), (3, .func (.func 47) #[] #[])]).run Try.prog w = .ok (.agg #[.bool true, .bool false, .bool false, .func (.func 47) #[] #[]]) w := fun _ => by kernel_rfl
 have b57_2 : ∀ w : World, (Instr.build 57 #[(0, .bool true), (3, .func (.func 45) #[] #[])]).run Try.prog w = .ok (.agg #[.bool true, .bool false, .bool false, .func (.func 45) #[] #[]]) w := fun _ => by kernel_rfl
 have b57_4 : ∀ w : World, (Instr.build 57 #[(1, .bool true), (3, .func (.func 45) #[] #[])]).run Try.prog w = .ok (.agg #[.bool false, .bool true, .bool false, .func (.func 45) #[] #[]]) w := fun _ => by kernel_rfl
 have b57_6 : ∀ w : World, (Instr.build 57 #[(3, .func (.func 46) #[] #[])]).run Try.prog w = .ok (.agg #[.bool false, .bool false, .bool false, .func (.func 46) #[] #[]]) w := fun _ => by kernel_rfl
 have b57_7 : ∀ w : World, (Instr.build 57 #[(3, .func (.func 45) #[] #[])]).run Try.prog w = .ok (.agg #[.bool false, .bool false, .bool false, .func (.func 45) #[] #[]]) w := fun _ => by kernel_rfl
 have b57_8 : ∀ w : World, (Instr.build 57 #[(1, .bool true), (2, .bool true), (3, .func (.func 45) #[] #[])]).run Try.prog w = .ok (.agg #[.bool false, .bool true, .bool true, .func (.func 45) #[] #[]]) w := fun _ => by kernel_rfl
 have b58 : ∀ w : World, (Instr.build 58 #[(1, .agg #[.bool true, .bool false, .bool false, .func (.func 47) #[] #[]]), (2, .agg #[.bool true, .bool false, .bool false, .func (.func 45) #[] #[]]), (3, .agg #[.bool true, .bool false, .bool false, .func (.func 45) #[] #[]]), (4, .agg #[.bool false, .bool true, .bool false, .func (.func 45) #[] #[]]), (5, .agg #[.bool false, .bool true, .bool false, .func (.func 45) #[] #[]]), (6, .agg #[.bool false, .bool false, .bool false, .func (.func 46) #[] #[]]), (7, .agg #[.bool false, .bool false, .bool false, .func (.func 45) #[] #[]]), (8, .agg #[.bool false, .bool true, .bool true, .func (.func 45) #[] #[]])]).run Try.prog w = .ok (.agg #[.bool false, .bool false, .bool false, .nilFunc, .bool true, .bool false, .bool false, .func (.func 47) #[] #[], .bool true, .bool false, .bool false, .func (.func 45) #[] #[], .bool true, .bool false, .bool false, .func (.func 45) #[] #[], .bool false, .bool true, .bool false, .func (.func 45) #[] #[], .bool false, .bool true, .bool false, .func (.func 45) #[] #[], .bool false, .bool false, .bool false, .func (.func 46) #[] #[], .bool false, .bool false, .bool false, .func (.func 45) #[] #[], .bool false, .bool true, .bool true, .func (.func 45) #[] #[]]) w := fun _ => by kernel_rfl
 go_enter Try.func31, Try.ntmps31
 go_upto_region 4 with (fail)
 have HG := Aside0.mk (heap_alloc_new w (.cells #[.bool false, .bool false, .bool false, .nilFunc, .bool false, .bool false, .bool false, .nilFunc, .bool false, .bool false, .bool false, .nilFunc, .bool false, .bool false, .bool false, .nilFunc, .bool false, .bool false, .bool false, .nilFunc, .bool false, .bool false, .bool false, .nilFunc, .bool false, .bool false, .bool false, .nilFunc, .bool false, .bool false, .bool false, .nilFunc, .bool false, .bool false, .bool false, .nilFunc] 58))
 have HB := Aside0.mk ((Below.refl w.heap.size w).alloc (Nat.le_refl _) (.cells #[.bool false, .bool false, .bool false, .nilFunc, .bool false, .bool false, .bool false, .nilFunc, .bool false, .bool false, .bool false, .nilFunc, .bool false, .bool false, .bool false, .nilFunc, .bool false, .bool false, .bool false, .nilFunc, .bool false, .bool false, .bool false, .nilFunc, .bool false, .bool false, .bool false, .nilFunc, .bool false, .bool false, .bool false, .nilFunc, .bool false, .bool false, .bool false, .nilFunc] 58))
 have HE := Aside0.mk (Nat.le_refl w.heap.size)
 have HS := Aside0.mk (show w.heap.size = w.heap.size from rfl)
 generalize w.alloc (.cells #[.bool false, .bool false, .bool false, .nilFunc, .bool false, .bool false, .bool false, .nilFunc, .bool false, .bool false, .bool false, .nilFunc, .bool false, .bool false, .bool false, .nilFunc, .bool false, .bool false, .bool false, .nilFunc, .bool false, .bool false, .bool false, .nilFunc, .bool false, .bool false, .bool false, .nilFunc, .bool false, .bool false, .bool false, .nilFunc, .bool false, .bool false, .bool false, .nilFunc] 58) = w1 at HG HB ⊢
 obtain ⟨g, hg⟩ : ∃ g, g = w.heap.size := ⟨_, rfl⟩
 rw [← hg] at HG ⊢
 have HE := Aside0.mk (Nat.le_of_eq hg.symm)
 clear hg
 go_wp2_with (refine wpList_store_row rfl 58 (.tmp 0) (.tmp 20) rfl g #[.bool false, .bool false, .bool false, .nilFunc, .bool true, .bool false, .bool false, .func (.func 47) #[] #[], .bool true, .bool false, .bool false, .func (.func 45) #[] #[], .bool true, .bool false, .bool false, .func (.func 45) #[] #[], .bool false, .bool true, .bool false, .func (.func 45) #[] #[], .bool false, .bool true, .bool false, .func (.func 45) #[] #[], .bool false, .bool false, .bool false, .func (.func 46) #[] #[], .bool false, .bool false, .bool false, .func (.func 45) #[] #[], .bool false, .bool true, .bool true, .func (.func 45) #[] #[]] rfl rfl 58 #[.bool false, .bool false, .bool false, .nilFunc, .bool false, .bool false, .bool false, .nilFunc, .bool false, .bool false, .bool false, .nilFunc, .bool false, .bool false, .bool false, .nilFunc, .bool false, .bool false, .bool false, .nilFunc, .bool false, .bool false, .bool false, .nilFunc, .bool false, .bool false, .bool false, .nilFunc, .bool false, .bool false, .bool false, .nilFunc, .bool false, .bool false, .bool false, .nilFunc] HG.out ?_ ?_ ?_ ?_; (case refine_1 => kernel_rfl); (case refine_2 => rfl); (case refine_3 => kernel_rfl))
 refine bodyPost_ret (results_cell_row rfl _ _ g 58 #[.bool false, .bool false, .bool false, .nilFunc, .bool true, .bool false, .bool false, .func (.func 47) #[] #[], .bool true, .bool false, .bool false, .func (.func 45) #[] #[], .bool true, .bool false, .bool false, .func (.func 45) #[] #[], .bool false, .bool true, .bool false, .func (.func 45) #[] #[], .bool false, .bool true, .bool false, .func (.func 45) #[] #[], .bool false, .bool false, .bool false, .func (.func 46) #[] #[], .bool false, .bool false, .bool false, .func (.func 45) #[] #[], .bool false, .bool true, .bool true, .func (.func 45) #[] #[]] (0, 0) _ rfl (setRow_heap w1 g _ _ _ _ HG.out) Try.underlying58 rfl (by kernel_rfl)) rfl ?_
 exact ⟨rfl, below_setRow HB.out HE.out _⟩
def change_follows_p.l0 : Nat → List (S39) → Int → List (S39) → Int → Int → Option (Bool)
 | 0, _, _, _, _, _ => none
 | k + 1, x0, x3, x6, x7, x8 => if x8 < x7 then (if 0 ≤ x8 then (if x8 < (x6.length : Int) then ((extent_Check.f ((rd_T39 x6 x8).f0) ((rd_T39 x6 x8).f1) ((rd_T39 x6 x8).f2) ((rd_T39 x6 x8).f3) ((rd_T39 x6 x8).f4)).bind fun t120 => (if t120 = true then (if ((rd_T39 x6 x8).f0) < x3 then (some false) else (change_follows_p.l0 k x0 (wrap64 (((rd_T39 x6 x8).f0) + ((rd_T39 x6 x8).f1))) x6 x7 (wrap64 (x8 + 1)))) else (some false))) else (none)) else (none)) else (some (decide ((x0.length : Int) ≤ 64)))
def change_follows_p.f (k : Nat) (l0 : List (S39)) : Option (Bool) := change_follows_p.l0 k l0 0 l0 (l0.length : Int) 0
set_option maxHeartbeats 8000000 in
set_option maxRecDepth 100000 in
theorem change_follows_p.calls (k : Nat) (A0 : Option Addr) (c0 : Nat) (l0 : List (S39)) (r : Bool) (w : World) (hr0 : Kd.C k39 w A0 l0.length l0) (hc0 : l0.length ≤ c0) (h : change_follows_p.f k l0 = some r) :
  Calls Try.prog 32 #[.slice A0 l0.length c0] w fun e w' => e = .returned (.bool r) ∧ Below w.heap.size w w' := by
 have hu39 := Try.underlying39
 have HR0 := Aside0.mk hr0
 have HC0 := Aside0.mk hc0
 clear hr0 hc0
 have HB := Aside0.mk (Below.refl w.heap.size w)
 have H : (change_follows_p.l0 k l0 0 l0 (l0.length : Int) 0) = some r := h
 clear h
 have H' := Aside0.mk H
 clear H
 go_enter Try.func32, Try.ntmps32
 go_wp2
 go_loopg [3, 8] k (fun kq v3 v8 w' => ∃ (x3_1 : Int) (x8_1 : Int), v3 = .int .i64 x3_1 ∧ v8 = .int .i64 x8_1 ∧ Aside0 (change_follows_p.l0 kq l0 x3_1 l0 (l0.length : Int) x8_1 = some r) ∧ Aside0 (kq ≤ k) ∧ Aside0 (Below w.heap.size w w'))
 case atStart => exact ⟨(0), (0), Cz.si, Cz.si, H', ⟨Nat.le_refl _⟩, ⟨Cz.bl (w := w)⟩⟩
 case round =>
  clear H'
  obtain ⟨x3_1, x8_1, rfl, rfl, HA, HK1, HB⟩ := hrel
  cases gk with
  | zero => exact absurd HA.out (by simp [change_follows_p.l0])
  | succ k1 =>
   have H := HA.out
   clear HA
   simp only [change_follows_p.l0] at H
   by_cases c2 : x8_1 < (l0.length : Int)
   ·rw [if_pos c2] at H
    have c2b0 : decide (x8_1 < (l0.length : Int)) = true := decide_eq_true c2
    clear c2
    by_cases c3 : 0 ≤ x8_1
    ·rw [if_pos c3] at H
     have c3b0 : decide (0 ≤ x8_1) = true := decide_eq_true c3
     clear c3
     by_cases c4 : x8_1 < (l0.length : Int)
     ·rw [if_pos c4] at H
      have c4b0 : decide (x8_1 < (l0.length : Int)) = true := decide_eq_true c4
      clear c4
      replace H := Option.bind_eq_some_iff.mp H
      obtain ⟨t120, A50, H⟩ := H
      (try dsimp only at H)
      have A5 := Aside0.mk A50
      clear A50
      by_cases c6 : t120 = true
      ·subst c6
       rw [if_pos rfl] at H
       by_cases c7 : ((rd_T39 l0 x8_1).f0) < x3_1
       ·rw [if_pos c7] at H
        have c7b0 : decide (((rd_T39 l0 x8_1).f0) < x3_1) = true := decide_eq_true c7
        clear c7
        obtain rfl := Option.some.inj H
        have p118 : 0 ≤ (x8_1 : Int) := of_decide_eq_true (by first | (with_reducible assumption) | assumption)
        have q118 : x8_1 < (l0.length : Int) := of_decide_eq_true (by first | (with_reducible assumption) | assumption)
        obtain ⟨ad118, A118_4, c118_4, e118, hx118_0, hx118_1, hx118_2, hx118_3, hx118_4, hl118_4, hi118_4⟩ := at_T39 HR0.out x8_1 p118 q118
        cases e118
        replace hx118_0 := (HB.out.cell (World.block_lt_of_cell? w _ hx118_0)).trans hx118_0
        replace hx118_1 := (HB.out.cell (World.block_lt_of_cell? w _ hx118_1)).trans hx118_1
        replace hx118_2 := (HB.out.cell (World.block_lt_of_cell? w _ hx118_2)).trans hx118_2
        replace hx118_3 := (HB.out.cell (World.block_lt_of_cell? w _ hx118_3)).trans hx118_3
        replace hx118_4 := (HB.out.cell (World.block_lt_of_cell? w _ hx118_4)).trans hx118_4
        have HR118_4 := Aside0.mk hi118_4
        have HC118_4 := Aside0.mk hl118_4
        clear hi118_4 hl118_4
        replace p118 := eq_true p118
        replace q118 := eq_true q118
        go_wp2_with (first | ((with_reducible refine gate_dst (N := 5) rfl ?_); refine Cz.bx (N := 5) #[.int .i64 0, .int .i64 0, .int .i64 0, .int .i64 0, .slice none 0 0] 39 ?_; intro gb119 hg w8 hbox hb; have BK119 := Aside0.mk (hbox); have GW119 := Aside0.mk ((Cz.gs hg : w.heap.size ≤ gb119)); have GE119 := GW119; replace HB := Cz.bs (w := w) hb; clear hb hbox hg; obtain ⟨z9_0, z9_1, z9_2, z9_3, z9_4, y9_0, y9_1, y9_2, y9_3, y9_4⟩ := Cz.d5 BK119) | ((with_reducible refine gate_callee (f := 36) rfl ?_); refine Cz.gL (N := (some 13)) Try.func36 #[.agg #[.int .i64 ((rd_T39 l0 x8_1).f0), .int .i64 ((rd_T39 l0 x8_1).f1), .int .i64 ((rd_T39 l0 x8_1).f2), .int .i64 ((rd_T39 l0 x8_1).f3), .slice A118_4 ((rd_T39 l0 x8_1).f4).length c118_4]] ?_; (with_reducible refine (extent_Check.calls ((rd_T39 l0 x8_1).f0) ((rd_T39 l0 x8_1).f1) ((rd_T39 l0 x8_1).f2) ((rd_T39 l0 x8_1).f3) _ _ ((rd_T39 l0 x8_1).f4) true _ ?side1 ?side2 A5.out).mono ?_); (case side1 => exact Kd.C_below HR118_4.out (Cz.bl (w := w))); (case side2 => exact HC118_4.out); rintro e w10 ⟨rfl, hb⟩; refine ⟨_, rfl, ?_⟩; replace BK119 := Aside0.mk (blk_below (g := gb119) (o := .cells #[.int .i64 ((rd_T39 l0 x8_1).f0), .int .i64 ((rd_T39 l0 x8_1).f1), .int .i64 ((rd_T39 l0 x8_1).f2), .int .i64 ((rd_T39 l0 x8_1).f3), .slice A118_4 ((rd_T39 l0 x8_1).f4).length c118_4] 39 (0, 0)) (by (with_reducible repeat (first | refine blk_drewN ?_ _ | refine blk_drew ?_ | refine blk_alloc ?_ _)); apply Cz.a5; (with_reducible repeat (first | refine blk_drewN ?_ _ | refine blk_drew ?_ | refine blk_alloc ?_ _)); exact BK119.out) hb); replace HB := Cz.bs (w := w) hb; (try clear hb); have z11_0 : w10.cell? ⟨gb119, 0, none⟩ = some (.int .i64 ((rd_T39 l0 x8_1).f0)) := (blk_cell BK119.out 0).trans rfl; have z11_1 : w10.cell? ⟨gb119, 1, none⟩ = some (.int .i64 ((rd_T39 l0 x8_1).f1)) := (blk_cell BK119.out 1).trans rfl; have z11_2 : w10.cell? ⟨gb119, 2, none⟩ = some (.int .i64 ((rd_T39 l0 x8_1).f2)) := (blk_cell BK119.out 2).trans rfl; have z11_3 : w10.cell? ⟨gb119, 3, none⟩ = some (.int .i64 ((rd_T39 l0 x8_1).f3)) := (blk_cell BK119.out 3).trans rfl; have z11_4 : w10.cell? ⟨gb119, 4, none⟩ = some (.slice A118_4 ((rd_T39 l0 x8_1).f4).length c118_4) := (blk_cell BK119.out 4).trans rfl; obtain ⟨y11_0, y11_1, y11_2, y11_3, y11_4⟩ := Cz.f5 BK119))
        go_ret
        exact ⟨Cz.er, Cz.bl (w := w)⟩
       ·rw [if_neg c7] at H
        have c7b0 : decide (((rd_T39 l0 x8_1).f0) < x3_1) = false := decide_eq_false c7
        clear c7
        have H' := Aside0.mk H
        clear H
        have p118 : 0 ≤ (x8_1 : Int) := of_decide_eq_true (by first | (with_reducible assumption) | assumption)
        have q118 : x8_1 < (l0.length : Int) := of_decide_eq_true (by first | (with_reducible assumption) | assumption)
        obtain ⟨ad118, A118_4, c118_4, e118, hx118_0, hx118_1, hx118_2, hx118_3, hx118_4, hl118_4, hi118_4⟩ := at_T39 HR0.out x8_1 p118 q118
        cases e118
        replace hx118_0 := (HB.out.cell (World.block_lt_of_cell? w _ hx118_0)).trans hx118_0
        replace hx118_1 := (HB.out.cell (World.block_lt_of_cell? w _ hx118_1)).trans hx118_1
        replace hx118_2 := (HB.out.cell (World.block_lt_of_cell? w _ hx118_2)).trans hx118_2
        replace hx118_3 := (HB.out.cell (World.block_lt_of_cell? w _ hx118_3)).trans hx118_3
        replace hx118_4 := (HB.out.cell (World.block_lt_of_cell? w _ hx118_4)).trans hx118_4
        have HR118_4 := Aside0.mk hi118_4
        have HC118_4 := Aside0.mk hl118_4
        clear hi118_4 hl118_4
        replace p118 := eq_true p118
        replace q118 := eq_true q118
        go_wp2_with (first | ((with_reducible refine gate_dst (N := 5) rfl ?_); refine Cz.bx (N := 5) #[.int .i64 0, .int .i64 0, .int .i64 0, .int .i64 0, .slice none 0 0] 39 ?_; intro gb119 hg w12 hbox hb; have BK119 := Aside0.mk (hbox); have GW119 := Aside0.mk ((Cz.gs hg : w.heap.size ≤ gb119)); have GE119 := GW119; replace HB := Cz.bs (w := w) hb; clear hb hbox hg; obtain ⟨z13_0, z13_1, z13_2, z13_3, z13_4, y13_0, y13_1, y13_2, y13_3, y13_4⟩ := Cz.d5 BK119) | ((with_reducible refine gate_callee (f := 36) rfl ?_); refine Cz.gL (N := (some 13)) Try.func36 #[.agg #[.int .i64 ((rd_T39 l0 x8_1).f0), .int .i64 ((rd_T39 l0 x8_1).f1), .int .i64 ((rd_T39 l0 x8_1).f2), .int .i64 ((rd_T39 l0 x8_1).f3), .slice A118_4 ((rd_T39 l0 x8_1).f4).length c118_4]] ?_; (with_reducible refine (extent_Check.calls ((rd_T39 l0 x8_1).f0) ((rd_T39 l0 x8_1).f1) ((rd_T39 l0 x8_1).f2) ((rd_T39 l0 x8_1).f3) _ _ ((rd_T39 l0 x8_1).f4) true _ ?side1 ?side2 A5.out).mono ?_); (case side1 => exact Kd.C_below HR118_4.out (Cz.bl (w := w))); (case side2 => exact HC118_4.out); rintro e w14 ⟨rfl, hb⟩; refine ⟨_, rfl, ?_⟩; replace BK119 := Aside0.mk (blk_below (g := gb119) (o := .cells #[.int .i64 ((rd_T39 l0 x8_1).f0), .int .i64 ((rd_T39 l0 x8_1).f1), .int .i64 ((rd_T39 l0 x8_1).f2), .int .i64 ((rd_T39 l0 x8_1).f3), .slice A118_4 ((rd_T39 l0 x8_1).f4).length c118_4] 39 (0, 0)) (by (with_reducible repeat (first | refine blk_drewN ?_ _ | refine blk_drew ?_ | refine blk_alloc ?_ _)); apply Cz.a5; (with_reducible repeat (first | refine blk_drewN ?_ _ | refine blk_drew ?_ | refine blk_alloc ?_ _)); exact BK119.out) hb); replace HB := Cz.bs (w := w) hb; (try clear hb); have z15_0 : w14.cell? ⟨gb119, 0, none⟩ = some (.int .i64 ((rd_T39 l0 x8_1).f0)) := (blk_cell BK119.out 0).trans rfl; have z15_1 : w14.cell? ⟨gb119, 1, none⟩ = some (.int .i64 ((rd_T39 l0 x8_1).f1)) := (blk_cell BK119.out 1).trans rfl; have z15_2 : w14.cell? ⟨gb119, 2, none⟩ = some (.int .i64 ((rd_T39 l0 x8_1).f2)) := (blk_cell BK119.out 2).trans rfl; have z15_3 : w14.cell? ⟨gb119, 3, none⟩ = some (.int .i64 ((rd_T39 l0 x8_1).f3)) := (blk_cell BK119.out 3).trans rfl; have z15_4 : w14.cell? ⟨gb119, 4, none⟩ = some (.slice A118_4 ((rd_T39 l0 x8_1).f4).length c118_4) := (blk_cell BK119.out 4).trans rfl; obtain ⟨y15_0, y15_1, y15_2, y15_3, y15_4⟩ := Cz.f5 BK119))
        go_roundg k1
        case measure => have := HK1.out; omega
        case rel => exact ⟨(wrap64 (((rd_T39 l0 x8_1).f0) + ((rd_T39 l0 x8_1).f1))), (wrap64 (x8_1 + 1)), Cz.si, Cz.si, H', ⟨by have := HK1.out; omega⟩, ⟨Cz.bl (w := w)⟩⟩
      ·replace c6 := Bool.eq_false_iff.mpr c6
       subst c6
       rw [if_neg (show ¬ (false = true) by decide)] at H
       obtain rfl := Option.some.inj H
       have p118 : 0 ≤ (x8_1 : Int) := of_decide_eq_true (by first | (with_reducible assumption) | assumption)
       have q118 : x8_1 < (l0.length : Int) := of_decide_eq_true (by first | (with_reducible assumption) | assumption)
       obtain ⟨ad118, A118_4, c118_4, e118, hx118_0, hx118_1, hx118_2, hx118_3, hx118_4, hl118_4, hi118_4⟩ := at_T39 HR0.out x8_1 p118 q118
       cases e118
       replace hx118_0 := (HB.out.cell (World.block_lt_of_cell? w _ hx118_0)).trans hx118_0
       replace hx118_1 := (HB.out.cell (World.block_lt_of_cell? w _ hx118_1)).trans hx118_1
       replace hx118_2 := (HB.out.cell (World.block_lt_of_cell? w _ hx118_2)).trans hx118_2
       replace hx118_3 := (HB.out.cell (World.block_lt_of_cell? w _ hx118_3)).trans hx118_3
       replace hx118_4 := (HB.out.cell (World.block_lt_of_cell? w _ hx118_4)).trans hx118_4
       have HR118_4 := Aside0.mk hi118_4
       have HC118_4 := Aside0.mk hl118_4
       clear hi118_4 hl118_4
       replace p118 := eq_true p118
       replace q118 := eq_true q118
       go_wp2_with (first | ((with_reducible refine gate_dst (N := 5) rfl ?_); refine Cz.bx (N := 5) #[.int .i64 0, .int .i64 0, .int .i64 0, .int .i64 0, .slice none 0 0] 39 ?_; intro gb119 hg w16 hbox hb; have BK119 := Aside0.mk (hbox); have GW119 := Aside0.mk ((Cz.gs hg : w.heap.size ≤ gb119)); have GE119 := GW119; replace HB := Cz.bs (w := w) hb; clear hb hbox hg; obtain ⟨z17_0, z17_1, z17_2, z17_3, z17_4, y17_0, y17_1, y17_2, y17_3, y17_4⟩ := Cz.d5 BK119) | ((with_reducible refine gate_callee (f := 36) rfl ?_); refine Cz.gL (N := (some 13)) Try.func36 #[.agg #[.int .i64 ((rd_T39 l0 x8_1).f0), .int .i64 ((rd_T39 l0 x8_1).f1), .int .i64 ((rd_T39 l0 x8_1).f2), .int .i64 ((rd_T39 l0 x8_1).f3), .slice A118_4 ((rd_T39 l0 x8_1).f4).length c118_4]] ?_; (with_reducible refine (extent_Check.calls ((rd_T39 l0 x8_1).f0) ((rd_T39 l0 x8_1).f1) ((rd_T39 l0 x8_1).f2) ((rd_T39 l0 x8_1).f3) _ _ ((rd_T39 l0 x8_1).f4) false _ ?side1 ?side2 A5.out).mono ?_); (case side1 => exact Kd.C_below HR118_4.out (Cz.bl (w := w))); (case side2 => exact HC118_4.out); rintro e w18 ⟨rfl, hb⟩; refine ⟨_, rfl, ?_⟩; replace BK119 := Aside0.mk (blk_below (g := gb119) (o := .cells #[.int .i64 ((rd_T39 l0 x8_1).f0), .int .i64 ((rd_T39 l0 x8_1).f1), .int .i64 ((rd_T39 l0 x8_1).f2), .int .i64 ((rd_T39 l0 x8_1).f3), .slice A118_4 ((rd_T39 l0 x8_1).f4).length c118_4] 39 (0, 0)) (by (with_reducible repeat (first | refine blk_drewN ?_ _ | refine blk_drew ?_ | refine blk_alloc ?_ _)); apply Cz.a5; (with_reducible repeat (first | refine blk_drewN ?_ _ | refine blk_drew ?_ | refine blk_alloc ?_ _)); exact BK119.out) hb); replace HB := Cz.bs (w := w) hb; (try clear hb)))
       go_ret
       exact ⟨Cz.er, Cz.bl (w := w)⟩
     ·rw [if_neg c4] at H
      exact absurd H (by simp)
    ·rw [if_neg c3] at H
     exact absurd H (by simp)
   ·rw [if_neg c2] at H
    have c2b0 : decide (x8_1 < (l0.length : Int)) = false := decide_eq_false c2
    clear c2
    obtain rfl := Option.some.inj H
    go_wp2
    go_ret
    exact ⟨Cz.er, Cz.bl (w := w)⟩
def change_follows.f (l0 : List S39) : Option Bool := if l0.length < 1073741824 then some (Pl.folS (l0.map toE)) else none
theorem change_follows.tells {l0 : List S39} (h : l0.length < 1073741824) : change_follows.f l0 = some (Pl.folS (l0.map toE)) := if_pos h
theorem change_follows.loop {l0 : List S39} (h2 : l0.length < 1073741824) : ∀ (d k i : Nat) (t : Int), l0.length - i = d → i ≤ l0.length → d < k → change_follows_p.l0 k l0 t l0 (l0.length : Int) (i : Int) = some (if Pl.folB t ((l0.drop i).map toE) = true then decide ((l0.length : Int) ≤ 64) else false)
 | 0, k, i, t, hd, hi, hk => by
  obtain ⟨k, rfl⟩ : ∃ m, k = m + 1 := ⟨k - 1, by omega⟩
  rw [change_follows_p.l0, if_neg (by omega), List.drop_of_length_le (by omega), List.map_nil, Pl.folB, if_pos rfl]
 | d + 1, k, i, t, hd, hi, hk => by
  obtain ⟨k, rfl⟩ : ∃ m, k = m + 1 := ⟨k - 1, by omega⟩
  have hi0 : i < l0.length := by omega
  have q1 : wrap64 ((i : Int) + 1) = ((i + 1 : Nat) : Int) := by unfold wrap64; omega
  rw [change_follows_p.l0, if_pos (by omega), if_pos (by omega), if_pos (by omega), rd_getE l0 i hi0, extent_Check.tells, Option.bind_some, List.drop_eq_getElem_cons hi0, List.map_cons, Pl.folB]
  by_cases hok : Pl.extOk l0[i].f0 l0[i].f1 l0[i].f2 l0[i].f3 l0[i].f4 = true
  ·have q := Pl.extOk_iff.1 hok
   have q2 : wrap64 (l0[i].f0 + l0[i].f1) = l0[i].f0 + l0[i].f1 := by unfold wrap64; omega
   rw [if_pos hok, show Pl.eOk (toE l0[i]) = true from hok, Bool.true_and]
   by_cases ht : l0[i].f0 < t
   ·rw [if_pos ht, decide_eq_false (show ¬ t ≤ (toE l0[i]).1 by show ¬ t ≤ l0[i].f0; omega)]
    rfl
   ·rw [if_neg ht, decide_eq_true (show t ≤ (toE l0[i]).1 by show t ≤ l0[i].f0; omega), Bool.true_and, q1, q2]
    exact change_follows.loop h2 d k (i + 1) _ (by omega) (by omega) (by omega)
  ·rw [if_neg hok, show Pl.eOk (toE l0[i]) = false from Bool.eq_false_iff.2 hok, Bool.false_and, if_neg (by decide)]
theorem change_follows.closes {l0 : List S39} {r : Bool} (h : change_follows.f l0 = some r) : change_follows_p.f (l0.length + 1) l0 = some r := by
 unfold change_follows.f at h
 split at h
 case isFalse => cases h
 rename_i h2
 rw [← h]
 unfold change_follows_p.f
 have := change_follows.loop h2 l0.length (l0.length + 1) 0 0 (by omega) (by omega) (by omega)
 rw [List.drop_zero, show ((0 : Nat) : Int) = 0 from rfl] at this
 rw [this, Pl.folS, List.length_map]
 by_cases hf : Pl.folB 0 (l0.map toE) = true
 ·rw [if_pos hf, hf, Bool.and_true, Option.some.injEq, decide_eq_decide]; omega
 ·rw [if_neg hf, Bool.eq_false_iff.2 hf, Bool.and_false]
theorem change_follows.calls (A0 : Option Addr) (c0 : Nat) (l0 : List (S39)) (r : Bool) (w : World) (hr0 : Kd.C k39 w A0 l0.length l0) (hc0 : l0.length ≤ c0) (h : change_follows.f l0 = some r) :
  Calls Try.prog 32 #[.slice A0 l0.length c0] w fun e w' => e = .returned (.bool r) ∧ Below w.heap.size w w' :=
 change_follows_p.calls (l0.length + 1) A0 c0 l0 r w hr0 hc0 (change_follows.closes h)
end Go.Proofs.Ytmgohkffphogdaa.PU
