/- Functions of the program as Lean functions, and that the Go code comes to just their answers: no condition but that the function says so. (Written by a program of this workplace over the kit's print, with contracts by hand.) -/
import Derived.Test.YtmgohkffphogdaaCz
import Derived.Test.YtmgohkffphogdaaPSx15
import Derived.Test.YtmgohkffphogdaaPSx31
import Derived.Test.YtmgohkffphogdaaPSx38
import Derived.Test.YtmgohkffphogdaaPSx42
namespace Go.Proofs.Ytmgohkffphogdaa.PS
open Go.Proofs.Ytmgohkffphogdaa Go.RowKit Go.Proofs.YtmgohkffphogdaaW.PrintWords Go.Proofs.YtmgohkffphogdaaW.PrintLast Go.Proofs.YtmgohkffphogdaaW.PrintMore
attribute [local go_sem] max2_int min2_int max_two min_two max_three min_three max_four min_four   -- for this text's walks alone
set_option linter.unusedVariables false
set_option linter.unusedSimpArgs false

/-! ### waggonerlaw10_ChangeSizes: function 7 -/
mutual
def waggonerlaw10_ChangeSizes.j0 : Nat → Int → Bool → Bool → Int → Int → Int → Int → List Int → List (S39) → Option (Bool)
 | 0, _, _, _, _, _, _, _, _, _ => none
 | k + 1, x1, x5, x22, x237000, x237001, x237002, x237003, x237004, x237005 => if x22 = true then (some x5) else (waggonerlaw10_ChangeSizes.l0 k x1 x5 (wrap64 (9 + (x237004.length : Int))) 0 x237000 x237001 x237002 x237003 x237004 x237005)
def waggonerlaw10_ChangeSizes.l0 : Nat → Int → Bool → Int → Int → Int → Int → Int → Int → List Int → List (S39) → Option (Bool)
 | 0, _, _, _, _, _, _, _, _, _, _ => none
 | k + 1, x1, x5, x6, x7, x237000, x237001, x237002, x237003, x237004, x237005 => if x7 < (x237005.length : Int) then (if 0 ≤ x7 then (if (((rd_T39 x237005 x7).f4).length : Int) > 3000 then (some x5) else (waggonerlaw10_ChangeSizes.l0 k x1 x5 (wrap64 ((wrap64 (x6 + 7)) + (((rd_T39 x237005 x7).f4).length : Int))) (wrap64 (x7 + 1)) x237000 x237001 x237002 x237003 x237004 x237005)) else (none)) else (if x237000 = 8 then (waggonerlaw10_ChangeSizes.j2 k x1 x5 (wrap64 (x6 + 1)) x237000 x237001 x237002 x237003 x237004 x237005) else (waggonerlaw10_ChangeSizes.j2 k x1 x5 x6 x237000 x237001 x237002 x237003 x237004 x237005))
def waggonerlaw10_ChangeSizes.j2 : Nat → Int → Bool → Int → Int → Int → Int → Int → List Int → List (S39) → Option (Bool)
 | 0, _, _, _, _, _, _, _, _, _ => none
 | k + 1, x1, x5, x6, x237000, x237001, x237002, x237003, x237004, x237005 => (change_Write.f x237000 x237001 x237002 x237003 x237004 x237005).bind fun bt240 => (if bt240.2 = 0 then (if (mx 1 (bt240.1.length : Int)) = 0 then (none) else (if 0 ≤ (Int.tmod (wrap64 (x1)) (mx 1 (bt240.1.length : Int))) then (if (Int.tmod (wrap64 (x1)) (mx 1 (bt240.1.length : Int))) ≤ (bt240.1.length : Int) then ((change_Read.f (bt240.1.take ((Int.tmod (wrap64 (x1)) (mx 1 (bt240.1.length : Int))) : Int).toNat)).bind fun bt248 => (if x5 = true then (if (bt240.1.length : Int) = x6 then (some (bt248.2.2.2.2.2.2 == 100)) else (some false)) else (some false))) else (none)) else (none))) else (if x5 = true then (if bt240.2 = 100 then (some ((bt240.1.length : Int) == 0)) else (some false)) else (some false)))
end
def waggonerlaw10_ChangeSizes.f (k : Nat) (a0_0 : Int) (a0_1 : Int) (a0_2 : Int) (a0_3 : Int) (l0_4 : List Int) (l0_5 : List (S39)) (a1 : Int) : Option (Bool) := (waggonerlaw10_awake.f).bind fun t237 => (if (l0_4.length : Int) > 3000 then (waggonerlaw10_ChangeSizes.j0 k a1 t237 true a0_0 a0_1 a0_2 a0_3 l0_4 l0_5) else (waggonerlaw10_ChangeSizes.j0 k a1 t237 (decide ((l0_5.length : Int) > 64)) a0_0 a0_1 a0_2 a0_3 l0_4 l0_5))
theorem waggonerlaw10_ChangeSizes.mono_l : ∀ k, (∀ y0 y1 y2 y3 y4 y5 y6 y7 y8, LeO (waggonerlaw10_ChangeSizes.j0 k y0 y1 y2 y3 y4 y5 y6 y7 y8) (waggonerlaw10_ChangeSizes.j0 (k + 1) y0 y1 y2 y3 y4 y5 y6 y7 y8)) ∧ (∀ y0 y1 y2 y3 y4 y5 y6 y7 y8 y9, LeO (waggonerlaw10_ChangeSizes.l0 k y0 y1 y2 y3 y4 y5 y6 y7 y8 y9) (waggonerlaw10_ChangeSizes.l0 (k + 1) y0 y1 y2 y3 y4 y5 y6 y7 y8 y9)) ∧ (∀ y0 y1 y2 y3 y4 y5 y6 y7 y8, LeO (waggonerlaw10_ChangeSizes.j2 k y0 y1 y2 y3 y4 y5 y6 y7 y8) (waggonerlaw10_ChangeSizes.j2 (k + 1) y0 y1 y2 y3 y4 y5 y6 y7 y8))
 | 0 => ⟨fun _ _ _ _ _ _ _ _ _ r h => by simp [waggonerlaw10_ChangeSizes.j0] at h, fun _ _ _ _ _ _ _ _ _ _ r h => by simp [waggonerlaw10_ChangeSizes.l0] at h, fun _ _ _ _ _ _ _ _ _ r h => by simp [waggonerlaw10_ChangeSizes.j2] at h⟩
 | k + 1 => by
  obtain ⟨ih0, ih1, ih2⟩ := waggonerlaw10_ChangeSizes.mono_l k
  refine ⟨?_, ?_, ?_⟩
  ·intro y0 y1 y2 y3 y4 y5 y6 y7 y8
   unfold waggonerlaw10_ChangeSizes.j0
   repeat' first
   | (with_reducible exact ih0 _ _ _ _ _ _ _ _ _)
   | (with_reducible exact ih1 _ _ _ _ _ _ _ _ _ _)
   | (with_reducible exact ih2 _ _ _ _ _ _ _ _ _)
   | (with_reducible exact LeO.refl _)
   | (with_reducible exact LeO.none _)
   | (with_reducible refine LeO.ite ?_ ?_)
   | (with_reducible refine LeO.bind ?_ (fun _ => ?_))
   | exact ih0 _ _ _ _ _ _ _ _ _
   | exact ih1 _ _ _ _ _ _ _ _ _ _
   | exact ih2 _ _ _ _ _ _ _ _ _
   | exact LeO.none _
   | refine LeO.ite ?_ ?_
   | refine LeO.bind ?_ (fun _ => ?_)
  ·intro y0 y1 y2 y3 y4 y5 y6 y7 y8 y9
   unfold waggonerlaw10_ChangeSizes.l0
   repeat' first
   | (with_reducible exact ih0 _ _ _ _ _ _ _ _ _)
   | (with_reducible exact ih1 _ _ _ _ _ _ _ _ _ _)
   | (with_reducible exact ih2 _ _ _ _ _ _ _ _ _)
   | (with_reducible exact LeO.refl _)
   | (with_reducible exact LeO.none _)
   | (with_reducible refine LeO.ite ?_ ?_)
   | (with_reducible refine LeO.bind ?_ (fun _ => ?_))
   | exact ih0 _ _ _ _ _ _ _ _ _
   | exact ih1 _ _ _ _ _ _ _ _ _ _
   | exact ih2 _ _ _ _ _ _ _ _ _
   | exact LeO.none _
   | refine LeO.ite ?_ ?_
   | refine LeO.bind ?_ (fun _ => ?_)
  ·intro y0 y1 y2 y3 y4 y5 y6 y7 y8
   unfold waggonerlaw10_ChangeSizes.j2
   repeat' first
   | (with_reducible exact ih0 _ _ _ _ _ _ _ _ _)
   | (with_reducible exact ih1 _ _ _ _ _ _ _ _ _ _)
   | (with_reducible exact ih2 _ _ _ _ _ _ _ _ _)
   | (with_reducible exact LeO.refl _)
   | (with_reducible exact LeO.none _)
   | (with_reducible refine LeO.ite ?_ ?_)
   | (with_reducible refine LeO.bind ?_ (fun _ => ?_))
   | exact ih0 _ _ _ _ _ _ _ _ _
   | exact ih1 _ _ _ _ _ _ _ _ _ _
   | exact ih2 _ _ _ _ _ _ _ _ _
   | exact LeO.none _
   | refine LeO.ite ?_ ?_
   | refine LeO.bind ?_ (fun _ => ?_)
theorem waggonerlaw10_ChangeSizes.mono : ∀ a0 a1 a2 a3 a4 a5 a6 k, LeO (waggonerlaw10_ChangeSizes.f k a0 a1 a2 a3 a4 a5 a6) (waggonerlaw10_ChangeSizes.f (k + 1) a0 a1 a2 a3 a4 a5 a6) := by
 intro a0 a1 a2 a3 a4 a5 a6 k
 obtain ⟨ih0, ih1, ih2⟩ := waggonerlaw10_ChangeSizes.mono_l k
 unfold waggonerlaw10_ChangeSizes.f
 repeat' first
   | (with_reducible exact ih0 _ _ _ _ _ _ _ _ _)
   | (with_reducible exact ih1 _ _ _ _ _ _ _ _ _ _)
   | (with_reducible exact ih2 _ _ _ _ _ _ _ _ _)
   | (with_reducible exact LeO.refl _)
   | (with_reducible exact LeO.none _)
   | (with_reducible refine LeO.ite ?_ ?_)
   | (with_reducible refine LeO.bind ?_ (fun _ => ?_))
   | exact ih0 _ _ _ _ _ _ _ _ _
   | exact ih1 _ _ _ _ _ _ _ _ _ _
   | exact ih2 _ _ _ _ _ _ _ _ _
   | exact LeO.none _
   | refine LeO.ite ?_ ?_
   | refine LeO.bind ?_ (fun _ => ?_)
set_option maxHeartbeats 8000000 in
set_option maxRecDepth 100000 in
theorem waggonerlaw10_ChangeSizes.calls (k : Nat) (a0_0 : Int) (a0_1 : Int) (a0_2 : Int) (a0_3 : Int) (A0_4 : Option Addr) (c0_4 : Nat) (l0_4 : List Int) (A0_5 : Option Addr) (c0_5 : Nat) (l0_5 : List (S39)) (a1 : Int) (r : Bool) (hT : r = true) (w : World) (hr0_4 : Kd.C (Kd.int .u8) w A0_4 l0_4.length l0_4) (hc0_4 : l0_4.length ≤ c0_4) (hr0_5 : Kd.C k39 w A0_5 l0_5.length l0_5) (hc0_5 : l0_5.length ≤ c0_5) (h : waggonerlaw10_ChangeSizes.f k a0_0 a0_1 a0_2 a0_3 l0_4 l0_5 a1 = some r) :
  Calls Try.prog 7 #[.agg #[.int .i64 a0_0, .int .i64 a0_1, .int .i64 a0_2, .int .i64 a0_3, .slice A0_4 l0_4.length c0_4, .slice A0_5 l0_5.length c0_5], .int .u16 a1] w fun e w' => e = .returned (.bool r) ∧ Below w.heap.size w w' := by
 subst hT
 have hu26 := Try.underlying26
 have HR0_4 := Aside0.mk hr0_4
 have HC0_4 := Aside0.mk hc0_4
 clear hr0_4 hc0_4
 have HR0_5 := Aside0.mk hr0_5
 have HC0_5 := Aside0.mk hc0_5
 clear hr0_5 hc0_5
 have HB := Aside0.mk (Below.refl w.heap.size w)
 have H : ((waggonerlaw10_awake.f).bind fun t237 => (if (l0_4.length : Int) > 3000 then (waggonerlaw10_ChangeSizes.j0 k a1 t237 true a0_0 a0_1 a0_2 a0_3 l0_4 l0_5) else (waggonerlaw10_ChangeSizes.j0 k a1 t237 (decide ((l0_5.length : Int) > 64)) a0_0 a0_1 a0_2 a0_3 l0_4 l0_5))) = some true := h
 clear h
 replace H := Option.bind_eq_some_iff.mp H
 obtain ⟨t237, A30, H⟩ := H
 (try dsimp only at H)
 have A3 := Aside0.mk A30
 clear A30
 have HC4 := Aside0.mk H
 clear H
 go_enter Try.func7, Try.ntmps7
 go_upto_region 2 with (first | ((with_reducible refine gate_dst (N := 2) rfl ?_); (try (refine gate_guard (by rfl) ?_; dsimp only)); refine box_event ?hg (N := 2) ?hd (cs := #[.int .i64 a0_0, .int .i64 a0_1, .int .i64 a0_2, .int .i64 a0_3, .slice A0_4 l0_4.length c0_4, .slice A0_5 l0_5.length c0_5]) (t := 26) ?hr ?_; (case hd => rfl); (case hg => rfl); (case hr => first | (go_simp; done) | (go_simp; rfl)); intro gb236 hg w5 hbox hb; have n0_ := Cz.bs (w := w) hb; have n1_ := Aside0.mk (hbox); have n2_ := Aside0.mk ((Cz.gs hg : w.heap.size ≤ gb236)); have n3_ := Aside0.mk ((Cz.gs hg : w.heap.size ≤ gb236)); clear HB; have HB := n0_; have BK236 := n1_; have GW236 := n2_; have GE236 := n3_; clear n0_ n1_ n2_ n3_; clear hb hbox hg) | ((with_reducible refine gate_callee (f := 9) rfl ?_); refine Cz.gL (N := (some 12)) Try.func9 #[] ?_; (with_reducible refine (waggonerlaw10_awake.calls  t237 _ A3.out).mono ?_); rintro e w6 ⟨rfl, hb⟩; refine ⟨_, rfl, ?_⟩; have n0_ := Cz.bk BK236 hb; have n1_ := Cz.bs (w := w) hb; clear BK236; clear HB; have BK236 := n0_; have HB := n1_; clear n0_ n1_; (try clear hb); (try clear hb2); (try clear hk); (try clear hi)))
 (try simp only [Act.put, Kx.sb, Kx.sz, Kx.ss])
 go_cut [22] (fun v22 wc => ∃ (kq : Nat) (x22_3 : Bool), v22 = .bool x22_3 ∧ Aside0 (waggonerlaw10_ChangeSizes.j0 kq a1 t237 x22_3 a0_0 a0_1 a0_2 a0_3 l0_4 l0_5 = some true) ∧ Aside0 (kq ≤ k) ∧ Aside0 (wc.heap[gb236]? = some (.cells #[.int .i64 a0_0, .int .i64 a0_1, .int .i64 a0_2, .int .i64 a0_3, (.slice A0_4 l0_4.length c0_4), (.slice A0_5 l0_5.length c0_5)] 26 (0, 0))) ∧ Aside0 (Below w.heap.size w wc))
 case first =>
  have H := HC4.out
  clear HC4
  by_cases c7 : (l0_4.length : Int) > 3000
  ·rw [if_pos c7] at H
   have c7b0 : decide (3000 < (l0_4.length : Int)) = true := decide_eq_true c7
   have c7b1 : decide (3000 < l0_4.length) = true := decide_eq_true (by omega)
   clear c7
   (first | rw [c7b0] | (simp only [i64_w, i32_w]; rw [c7b0]) | skip)
   have H' := Aside0.mk H
   clear H
   obtain ⟨hcz8_0, hcz8_1, hcz8_2, hcz8_3, hcz8_4, hcz8_5, hfz8_0, hfz8_1, hfz8_2, hfz8_3, hfz8_4, hfz8_5⟩ := Cz.d6 BK236
   go_wp2
   go_meet
   case rel => exact ⟨_, (true), (by first | rfl | (simp; done) | (simp [*]; done)), H', ⟨by first | omega | exact Nat.le_refl _⟩, ⟨by (with_reducible repeat (first | refine blk_drewN ?_ _ | refine blk_drew ?_ | refine blk_alloc ?_ _)); exact BK236.out⟩, ⟨by repeat (first | (with_reducible first | exact HB.out | apply below_alloc | apply pw_below_drewN | apply below_drew1 | refine below_set ?_ GE236.out) | exact HB.out)⟩⟩
  ·rw [if_neg c7] at H
   have c7b0 : decide (3000 < (l0_4.length : Int)) = false := decide_eq_false c7
   have c7b1 : decide (3000 < l0_4.length) = false := decide_eq_false (by omega)
   clear c7
   (first | rw [c7b0] | (simp only [i64_w, i32_w]; rw [c7b0]) | skip)
   have H' := Aside0.mk H
   clear H
   obtain ⟨hcz9_0, hcz9_1, hcz9_2, hcz9_3, hcz9_4, hcz9_5, hfz9_0, hfz9_1, hfz9_2, hfz9_3, hfz9_4, hfz9_5⟩ := Cz.d6 BK236
   go_wp2
   go_meet
   case rel => exact ⟨_, (decide ((l0_5.length : Int) > 64)), (by first | rfl | (simp; done) | (simp [*]; done)), H', ⟨by first | omega | exact Nat.le_refl _⟩, ⟨by (with_reducible repeat (first | refine blk_drewN ?_ _ | refine blk_drew ?_ | refine blk_alloc ?_ _)); exact BK236.out⟩, ⟨by repeat (first | (with_reducible first | exact HB.out | apply below_alloc | apply pw_below_drewN | apply below_drew1 | refine below_set ?_ GE236.out) | exact HB.out)⟩⟩
 case rest =>
  clear HC4
  try clear p2
  try clear c7
  try clear c7b0
  try clear c7b1
  try clear c9
  try clear hcz8_0
  try clear hcz8_1
  try clear hcz8_2
  try clear hcz8_3
  try clear hcz8_4
  try clear hcz8_5
  try clear hcz9_0
  try clear hcz9_1
  try clear hcz9_2
  try clear hcz9_3
  try clear hcz9_4
  try clear hcz9_5
  try clear hfz8_0
  try clear hfz8_1
  try clear hfz8_2
  try clear hfz8_3
  try clear hfz8_4
  try clear hfz8_5
  try clear hfz9_0
  try clear hfz9_1
  try clear hfz9_2
  try clear hfz9_3
  try clear hfz9_4
  try clear hfz9_5
  obtain ⟨kq, x22_3, rfl, HA, HJ3, BK236, HB⟩ := hcut
  cases kq with
  | zero => exact absurd HA.out (by simp [waggonerlaw10_ChangeSizes.j0])
  | succ kj3 =>
   have H := HA.out
   clear HA
   simp only [waggonerlaw10_ChangeSizes.j0] at H
   by_cases c10 : x22_3 = true
   ·subst c10
    rw [if_pos rfl] at H
    (have HRT := Aside0.mk (Option.some.inj H); clear H)
    go_wp2
    go_ret
    exact ⟨by first | rfl | (exact congrArg (fun z_ => Ending.returned (Value.bool z_)) HRT.out) | (rw [HRT.out]; done) | (simp [errW_none, errW_some] <;> rfl) | (simp [*, errW_none, errW_some] <;> rfl), by repeat (first | (with_reducible first | exact HB.out | apply below_alloc | apply pw_below_drewN | apply below_drew1 | refine below_set ?_ GE236.out) | exact HB.out)⟩
   ·replace c10 := Bool.eq_false_iff.mpr c10
    subst c10
    rw [if_neg (show ¬ (false = true) by decide)] at H
    have H' := Aside0.mk H
    clear H
    obtain ⟨hcz11_0, hcz11_1, hcz11_2, hcz11_3, hcz11_4, hcz11_5, hfz11_0, hfz11_1, hfz11_2, hfz11_3, hfz11_4, hfz11_5⟩ := Cz.d6 BK236
    go_wp2
    go_loopg [6, 7] kj3 (fun kq v6 v7 w' => ∃ (x6_2 : Int) (x7_2 : Int), v6 = .int .i64 x6_2 ∧ v7 = .int .i64 x7_2 ∧ Aside0 (waggonerlaw10_ChangeSizes.l0 kq a1 t237 x6_2 x7_2 a0_0 a0_1 a0_2 a0_3 l0_4 l0_5 = some true) ∧ Aside0 (kq ≤ kj3) ∧ Aside0 (w'.heap[gb236]? = some (.cells #[.int .i64 a0_0, .int .i64 a0_1, .int .i64 a0_2, .int .i64 a0_3, (.slice A0_4 l0_4.length c0_4), (.slice A0_5 l0_5.length c0_5)] 26 (0, 0))) ∧ Aside0 (Below w.heap.size w w'))
    case atStart => exact ⟨(wrap64 (9 + (l0_4.length : Int))), (0), (by first | rfl | (simp; done) | (simp [*]; done)), (by first | rfl | (simp; done) | (simp [*]; done)), H', ⟨Nat.le_refl _⟩, ⟨by (with_reducible repeat (first | refine blk_drewN ?_ _ | refine blk_drew ?_ | refine blk_alloc ?_ _)); exact BK236.out⟩, ⟨by repeat (first | (with_reducible first | exact HB.out | apply below_alloc | apply pw_below_drewN | apply below_drew1 | refine below_set ?_ GE236.out) | exact HB.out)⟩⟩
    case round =>
     clear H'
     try clear c1
     try clear p2
     try clear p6
     try clear c7
     try clear c7b0
     try clear c7b1
     try clear c9
     try clear c10
     try clear hcz11_0
     try clear hcz11_1
     try clear hcz11_2
     try clear hcz11_3
     try clear hcz11_4
     try clear hcz11_5
     try clear hcz8_0
     try clear hcz8_1
     try clear hcz8_2
     try clear hcz8_3
     try clear hcz8_4
     try clear hcz8_5
     try clear hcz9_0
     try clear hcz9_1
     try clear hcz9_2
     try clear hcz9_3
     try clear hcz9_4
     try clear hcz9_5
     try clear hfz11_0
     try clear hfz11_1
     try clear hfz11_2
     try clear hfz11_3
     try clear hfz11_4
     try clear hfz11_5
     try clear hfz8_0
     try clear hfz8_1
     try clear hfz8_2
     try clear hfz8_3
     try clear hfz8_4
     try clear hfz8_5
     try clear hfz9_0
     try clear hfz9_1
     try clear hfz9_2
     try clear hfz9_3
     try clear hfz9_4
     try clear hfz9_5
     try clear p2
     obtain ⟨x6_2, x7_2, rfl, rfl, HA, HK2, BK236, HB⟩ := hrel
     cases gk with
     | zero => exact absurd HA.out (by simp [waggonerlaw10_ChangeSizes.l0])
     | succ k2 =>
      have H := HA.out
      clear HA
      simp only [waggonerlaw10_ChangeSizes.l0] at H
      by_cases c12 : x7_2 < (l0_5.length : Int)
      ·rw [if_pos c12] at H
       have c12b0 : decide (x7_2 < (l0_5.length : Int)) = true := decide_eq_true c12
       clear c12
       by_cases c13 : 0 ≤ x7_2
       ·rw [if_pos c13] at H
        have c13b0 : decide (0 ≤ x7_2) = true := decide_eq_true c13
        clear c13
        by_cases c14 : (((rd_T39 l0_5 x7_2).f4).length : Int) > 3000
        ·rw [if_pos c14] at H
         have c14b0 : decide (3000 < (((rd_T39 l0_5 x7_2).f4).length : Int)) = true := decide_eq_true c14
         have c14b1 : decide (3000 < ((rd_T39 l0_5 x7_2).f4).length) = true := decide_eq_true (by omega)
         clear c14
         (have HRT := Aside0.mk (Option.some.inj H); clear H)
         obtain ⟨hcz15_0, hcz15_1, hcz15_2, hcz15_3, hcz15_4, hcz15_5, hfz15_0, hfz15_1, hfz15_2, hfz15_3, hfz15_4, hfz15_5⟩ := Cz.d6 BK236
         have p238 : 0 ≤ (x7_2 : Int) := of_decide_eq_true (by first | (with_reducible assumption) | assumption)
         have q238 : x7_2 < (l0_5.length : Int) := of_decide_eq_true (by first | (with_reducible assumption) | assumption)
         obtain ⟨ad238, A238_4, c238_4, e238, hx238_0, hx238_1, hx238_2, hx238_3, hx238_4, hl238_4, hi238_4⟩ := at_T39 HR0_5.out x7_2 p238 q238
         cases e238
         replace hx238_0 := (HB.out.cell (World.block_lt_of_cell? w _ hx238_0)).trans hx238_0
         replace hx238_1 := (HB.out.cell (World.block_lt_of_cell? w _ hx238_1)).trans hx238_1
         replace hx238_2 := (HB.out.cell (World.block_lt_of_cell? w _ hx238_2)).trans hx238_2
         replace hx238_3 := (HB.out.cell (World.block_lt_of_cell? w _ hx238_3)).trans hx238_3
         replace hx238_4 := (HB.out.cell (World.block_lt_of_cell? w _ hx238_4)).trans hx238_4
         have HR238_4 := Aside0.mk hi238_4
         have HC238_4 := Aside0.mk hl238_4
         clear hi238_4 hl238_4
         replace p238 := eq_true p238
         replace q238 := eq_true q238
         go_wp2
         go_ret
         exact ⟨by first | rfl | (exact congrArg (fun z_ => Ending.returned (Value.bool z_)) HRT.out) | (rw [HRT.out]; done) | (simp [errW_none, errW_some] <;> rfl) | (simp [*, errW_none, errW_some] <;> rfl), by repeat (first | (with_reducible first | exact HB.out | apply below_alloc | apply pw_below_drewN | apply below_drew1 | refine below_set ?_ GE236.out) | exact HB.out)⟩
        ·rw [if_neg c14] at H
         have c14b0 : decide (3000 < (((rd_T39 l0_5 x7_2).f4).length : Int)) = false := decide_eq_false c14
         have c14b1 : decide (3000 < ((rd_T39 l0_5 x7_2).f4).length) = false := decide_eq_false (by omega)
         clear c14
         have H' := Aside0.mk H
         clear H
         obtain ⟨hcz16_0, hcz16_1, hcz16_2, hcz16_3, hcz16_4, hcz16_5, hfz16_0, hfz16_1, hfz16_2, hfz16_3, hfz16_4, hfz16_5⟩ := Cz.d6 BK236
         have p238 : 0 ≤ (x7_2 : Int) := of_decide_eq_true (by first | (with_reducible assumption) | assumption)
         have q238 : x7_2 < (l0_5.length : Int) := of_decide_eq_true (by first | (with_reducible assumption) | assumption)
         obtain ⟨ad238, A238_4, c238_4, e238, hx238_0, hx238_1, hx238_2, hx238_3, hx238_4, hl238_4, hi238_4⟩ := at_T39 HR0_5.out x7_2 p238 q238
         cases e238
         replace hx238_0 := (HB.out.cell (World.block_lt_of_cell? w _ hx238_0)).trans hx238_0
         replace hx238_1 := (HB.out.cell (World.block_lt_of_cell? w _ hx238_1)).trans hx238_1
         replace hx238_2 := (HB.out.cell (World.block_lt_of_cell? w _ hx238_2)).trans hx238_2
         replace hx238_3 := (HB.out.cell (World.block_lt_of_cell? w _ hx238_3)).trans hx238_3
         replace hx238_4 := (HB.out.cell (World.block_lt_of_cell? w _ hx238_4)).trans hx238_4
         have HR238_4 := Aside0.mk hi238_4
         have HC238_4 := Aside0.mk hl238_4
         clear hi238_4 hl238_4
         replace p238 := eq_true p238
         replace q238 := eq_true q238
         have p239 : 0 ≤ (x7_2 : Int) := of_decide_eq_true (by first | (with_reducible assumption) | assumption)
         have q239 : x7_2 < (l0_5.length : Int) := of_decide_eq_true (by first | (with_reducible assumption) | assumption)
         obtain ⟨ad239, A239_4, c239_4, e239, hx239_0, hx239_1, hx239_2, hx239_3, hx239_4, hl239_4, hi239_4⟩ := at_T39 HR0_5.out x7_2 p239 q239
         obtain rfl : ad238 = ad239 := (by injection e239)
         replace hx239_0 := (HB.out.cell (World.block_lt_of_cell? w _ hx239_0)).trans hx239_0
         replace hx239_1 := (HB.out.cell (World.block_lt_of_cell? w _ hx239_1)).trans hx239_1
         replace hx239_2 := (HB.out.cell (World.block_lt_of_cell? w _ hx239_2)).trans hx239_2
         replace hx239_3 := (HB.out.cell (World.block_lt_of_cell? w _ hx239_3)).trans hx239_3
         replace hx239_4 := (HB.out.cell (World.block_lt_of_cell? w _ hx239_4)).trans hx239_4
         have HR239_4 := Aside0.mk hi239_4
         have HC239_4 := Aside0.mk hl239_4
         clear hi239_4 hl239_4
         replace p239 := eq_true p239
         replace q239 := eq_true q239
         have ea_ := Option.some.inj (hx238_4.symm.trans hx239_4)
         injection ea_ with ea_ en_ ec_
         subst ea_
         subst ec_
         clear en_
         go_wp2
         go_roundg k2
         case measure => have := HJ3.out; have := HK2.out; omega
         case rel => exact ⟨(wrap64 ((wrap64 (x6_2 + 7)) + (((rd_T39 l0_5 x7_2).f4).length : Int))), (wrap64 (x7_2 + 1)), (by first | rfl | (simp; done) | (simp [*]; done)), (by first | rfl | (simp; done) | (simp [*]; done)), H', ⟨by have := HJ3.out; have := HK2.out; omega⟩, ⟨by (with_reducible repeat (first | refine blk_drewN ?_ _ | refine blk_drew ?_ | refine blk_alloc ?_ _)); exact BK236.out⟩, ⟨by repeat (first | (with_reducible first | exact HB.out | apply below_alloc | apply pw_below_drewN | apply below_drew1 | refine below_set ?_ GE236.out) | exact HB.out)⟩⟩
       ·rw [if_neg c13] at H
        exact absurd H (by simp)
      ·rw [if_neg c12] at H
       have c12b0 : decide (x7_2 < (l0_5.length : Int)) = false := decide_eq_false c12
       clear c12
       have HC17 := Aside0.mk H
       clear H
       obtain ⟨hcz18_0, hcz18_1, hcz18_2, hcz18_3, hcz18_4, hcz18_5, hfz18_0, hfz18_1, hfz18_2, hfz18_3, hfz18_4, hfz18_5⟩ := Cz.d6 BK236
       go_upto_if 56 with (fail)
       go_cut [6] (fun v6 wc => ∃ (kq : Nat) (x6_16 : Int), v6 = .int .i64 x6_16 ∧ Aside0 (waggonerlaw10_ChangeSizes.j2 kq a1 t237 x6_16 a0_0 a0_1 a0_2 a0_3 l0_4 l0_5 = some true) ∧ Aside0 (kq ≤ k2) ∧ Aside0 (wc.heap[gb236]? = some (.cells #[.int .i64 a0_0, .int .i64 a0_1, .int .i64 a0_2, .int .i64 a0_3, (.slice A0_4 l0_4.length c0_4), (.slice A0_5 l0_5.length c0_5)] 26 (0, 0))) ∧ Aside0 (Below w.heap.size w wc))
       case first =>
        have H := HC17.out
        clear HC17
        by_cases c19 : a0_0 = 8
        ·rw [if_pos c19] at H
         have c19b0 : (a0_0 == 8) = true := beq_iff_eq.mpr c19
         have c19b1 : (a0_0 != 8) = false := bne_eq_false_iff_eq.mpr c19
         clear c19
         (first | rw [c19b0] | (simp only [i64_w, i32_w]; rw [c19b0]) | skip)
         have H' := Aside0.mk H
         clear H
         go_wp2
         go_meet
         case rel => exact ⟨_, (wrap64 (x6_2 + 1)), (by first | rfl | (simp; done) | (simp [*]; done)), H', ⟨by have := HJ3.out; have := HK2.out; first | omega | exact Nat.le_refl _⟩, ⟨by (with_reducible repeat (first | refine blk_drewN ?_ _ | refine blk_drew ?_ | refine blk_alloc ?_ _)); exact BK236.out⟩, ⟨by repeat (first | (with_reducible first | exact HB.out | apply below_alloc | apply pw_below_drewN | apply below_drew1 | refine below_set ?_ GE236.out) | exact HB.out)⟩⟩
        ·rw [if_neg c19] at H
         have c19b0 : (a0_0 == 8) = false := beq_eq_false_iff_ne.mpr c19
         have c19b1 : (a0_0 != 8) = true := bne_iff_ne.mpr c19
         (first | rw [c19b0] | (simp only [i64_w, i32_w]; rw [c19b0]) | skip)
         have H' := Aside0.mk H
         clear H
         go_wp2
         go_meet
         case rel => exact ⟨_, (x6_2), (by first | rfl | (simp; done) | (simp [*]; done)), H', ⟨by have := HJ3.out; have := HK2.out; first | omega | exact Nat.le_refl _⟩, ⟨by (with_reducible repeat (first | refine blk_drewN ?_ _ | refine blk_drew ?_ | refine blk_alloc ?_ _)); exact BK236.out⟩, ⟨by repeat (first | (with_reducible first | exact HB.out | apply below_alloc | apply pw_below_drewN | apply below_drew1 | refine below_set ?_ GE236.out) | exact HB.out)⟩⟩
       case rest =>
        clear HC17
        try clear c1
        try clear c2
        try clear p2
        try clear q2
        try clear hx2
        try clear p6
        try clear c7
        try clear c7b0
        try clear c7b1
        try clear c9
        try clear c10
        try clear c12
        try clear c12b0
        try clear c13
        try clear c13b0
        try clear c14
        try clear c14b0
        try clear c14b1
        try clear c19
        try clear c19b0
        try clear c19b1
        try clear hcz11_0
        try clear hcz11_1
        try clear hcz11_2
        try clear hcz11_3
        try clear hcz11_4
        try clear hcz11_5
        try clear hcz15_0
        try clear hcz15_1
        try clear hcz15_2
        try clear hcz15_3
        try clear hcz15_4
        try clear hcz15_5
        try clear hcz16_0
        try clear hcz16_1
        try clear hcz16_2
        try clear hcz16_3
        try clear hcz16_4
        try clear hcz16_5
        try clear hcz18_0
        try clear hcz18_1
        try clear hcz18_2
        try clear hcz18_3
        try clear hcz18_4
        try clear hcz18_5
        try clear hcz8_0
        try clear hcz8_1
        try clear hcz8_2
        try clear hcz8_3
        try clear hcz8_4
        try clear hcz8_5
        try clear hcz9_0
        try clear hcz9_1
        try clear hcz9_2
        try clear hcz9_3
        try clear hcz9_4
        try clear hcz9_5
        try clear hfz11_0
        try clear hfz11_1
        try clear hfz11_2
        try clear hfz11_3
        try clear hfz11_4
        try clear hfz11_5
        try clear hfz15_0
        try clear hfz15_1
        try clear hfz15_2
        try clear hfz15_3
        try clear hfz15_4
        try clear hfz15_5
        try clear hfz16_0
        try clear hfz16_1
        try clear hfz16_2
        try clear hfz16_3
        try clear hfz16_4
        try clear hfz16_5
        try clear hfz18_0
        try clear hfz18_1
        try clear hfz18_2
        try clear hfz18_3
        try clear hfz18_4
        try clear hfz18_5
        try clear hfz8_0
        try clear hfz8_1
        try clear hfz8_2
        try clear hfz8_3
        try clear hfz8_4
        try clear hfz8_5
        try clear hfz9_0
        try clear hfz9_1
        try clear hfz9_2
        try clear hfz9_3
        try clear hfz9_4
        try clear hfz9_5
        try clear hx238_0
        try clear hx238_1
        try clear hx238_2
        try clear hx238_3
        try clear hx238_4
        try clear hx239_0
        try clear hx239_1
        try clear hx239_2
        try clear hx239_3
        try clear hx239_4
        try clear p2
        try clear p238
        try clear p239
        try clear p6
        try clear q238
        try clear q239
        obtain ⟨kq, x6_16, rfl, HA, HJ16, BK236, HB⟩ := hcut
        cases kq with
        | zero => exact absurd HA.out (by simp [waggonerlaw10_ChangeSizes.j2])
        | succ kj16 =>
         have H := HA.out
         clear HA
         simp only [waggonerlaw10_ChangeSizes.j2] at H
         replace H := Option.bind_eq_some_iff.mp H
         obtain ⟨⟨t240, t243⟩, A200, H⟩ := H
         (try dsimp only at H)
         have A20 := Aside0.mk A200
         clear A200
         by_cases c21 : t243 = 0
         ·rw [if_pos c21] at H
          have c21b0 : (t243 == 0) = true := beq_iff_eq.mpr c21
          have c21b1 : (t243 != 0) = false := bne_eq_false_iff_eq.mpr c21
          clear c21
          obtain ⟨ji22, hji22⟩ : ∃ j_ : Int, (mx 1 (t240.length : Int)) = j_ := ⟨_, rfl⟩
          replace H : (if (ji22) = 0 then (none) else (if 0 ≤ (Int.tmod (wrap64 (a1)) (ji22)) then (if (Int.tmod (wrap64 (a1)) (ji22)) ≤ (t240.length : Int) then ((change_Read.f (t240.take ((Int.tmod (wrap64 (a1)) (ji22)) : Int).toNat)).bind fun bt248 => (if t237 = true then (if (t240.length : Int) = x6_16 then (some (bt248.2.2.2.2.2.2 == 100)) else (some false)) else (some false))) else (none)) else (none))) = some true := by first | (rw [hji22] at H; exact H) | (simp only [hji22] at H ⊢; exact H)
          (try rw [hji22] at A20)
          (try (have hji22l : 1 ≤ ji22 := by (rw [← hji22]; unfold mx; (repeat' split) <;> omega)))
          (try (have hji22m : 0 ≤ ji22 := by omega))
          have hji22_ : (if 1 < (t240.length : Int) then (t240.length : Int) else 1) = ji22 := hji22
          (try (have hji22n : (if 1 < t240.length then (t240.length : Int) else 1) = ji22 := by (rw [← hji22_]; exact ite_congr (propext (by omega)) (fun _ => rfl) (fun _ => rfl))))
          by_cases c23 : (ji22) = 0
          ·rw [if_pos c23] at H
           exact absurd H (by simp)
          ·rw [if_neg c23] at H
           have c23b0 : ((ji22) == 0) = false := beq_eq_false_iff_ne.mpr c23
           have c23b1 : ((ji22) != 0) = true := bne_iff_ne.mpr c23
           obtain ⟨ji24, hji24⟩ : ∃ j_ : Int, (Int.tmod (wrap64 (a1)) (ji22)) = j_ := ⟨_, rfl⟩
           replace H : (if 0 ≤ (ji24) then (if (ji24) ≤ (t240.length : Int) then ((change_Read.f (t240.take ((ji24) : Int).toNat)).bind fun bt248 => (if t237 = true then (if (t240.length : Int) = x6_16 then (some (bt248.2.2.2.2.2.2 == 100)) else (some false)) else (some false))) else (none)) else (none)) = some true := by first | (rw [hji24] at H; exact H) | (simp only [hji24] at H ⊢; exact H)
           (try rw [hji24] at A20)
           by_cases c25 : 0 ≤ (ji24)
           ·rw [if_pos c25] at H
            have c25b0 := eq_true c25
            have c25b1 : decide (0 ≤ (ji24)) = true := decide_eq_true c25
            clear c25
            by_cases c26 : (ji24) ≤ (t240.length : Int)
            ·rw [if_pos c26] at H
             have c26b0 := eq_true c26
             have c26b1 : decide ((ji24) ≤ (t240.length : Int)) = true := decide_eq_true c26
             clear c26
             obtain ⟨y244, hy244⟩ : ∃ y_ : List Int, y_ = (t240.take ((ji24) : Int).toNat) := ⟨_, rfl⟩
             replace H : ((change_Read.f y244).bind fun bt248 => (if t237 = true then (if (t240.length : Int) = x6_16 then (some (bt248.2.2.2.2.2.2 == 100)) else (some false)) else (some false))) = some true := by first | (rw [hy244]; with_reducible exact H) | (have H2_ := (Option.bind_some _ _).symm.trans H; rw [hy244]; with_reducible exact H2_) | (have H2_ := (Option.bind_some _ _).symm.trans H; with_reducible exact H2_) | with_reducible exact H | (rw [hy244]; exact H) | exact H
             have Ny244 := Aside0.mk hy244
             clear hy244
             replace H := Option.bind_eq_some_iff.mp H
             obtain ⟨⟨t248, t249, t250, t251, t252, t255, t258⟩, A270, H⟩ := H
             (try dsimp only at H)
             have A27 := Aside0.mk A270
             clear A270
             by_cases c28 : t237 = true
             ·subst c28
              rw [if_pos rfl] at H
              by_cases c29 : (t240.length : Int) = x6_16
              ·rw [if_pos c29] at H
               have c29b0 : ((t240.length : Int) == x6_16) = true := beq_iff_eq.mpr c29
               have c29b1 : ((t240.length : Int) != x6_16) = false := bne_eq_false_iff_eq.mpr c29
               clear c29
               (have HRT := Aside0.mk (Option.some.inj H); clear H)
               obtain ⟨hcz30_0, hcz30_1, hcz30_2, hcz30_3, hcz30_4, hcz30_5, hfz30_0, hfz30_1, hfz30_2, hfz30_3, hfz30_4, hfz30_5⟩ := Cz.d6 BK236
               go_wp2_with (first | ((with_reducible refine gate_callee (f := 11) rfl ?_); refine Cz.gL (N := (some 61)) Try.func11 #[.agg #[.int .i64 a0_0, .int .i64 a0_1, .int .i64 a0_2, .int .i64 a0_3, .slice A0_4 l0_4.length c0_4, .slice A0_5 l0_5.length c0_5]] ?_; (with_reducible refine (change_Write.calls a0_0 a0_1 a0_2 a0_3 _ _ l0_4 _ _ l0_5 t240 t243 _ ?side1 ?side2 ?side3 ?side4 A20.out).mono ?_); (case side1 => exact Cz.cb HR0_4); (case side2 => exact HC0_4.out); (case side3 => exact Cz.cb HR0_5); (case side4 => exact HC0_5.out); rintro e w31 ⟨v241, rfl, ho0, hb⟩; refine ⟨_, rfl, ?_⟩; have n0_ := Aside0.mk (Kd.R_lower ho0 (below_size (by repeat (first | (with_reducible first | exact HB.out | apply below_alloc | apply pw_below_drewN | apply below_drew1 | refine below_set ?_ GE236.out) | exact HB.out)))); have n1_ := Cz.bk BK236 hb; have n2_ := Cz.bs (w := w) hb; clear BK236; clear HB; have HO242 := n0_; have BK236 := n1_; have HB := n2_; clear n0_ n1_ n2_; (try clear hb); (try clear hb2); (try clear hk); (try clear hi); (try clear ho0); obtain ⟨Ao32, co32, eo32⟩ := Kd.R_slice HO242.out; subst eo32; have q33 : ((ji24) : Int) ≤ ((t240.length : Int) : Int) := of_decide_eq_true (by first | (with_reducible assumption) | assumption); obtain ⟨i033, hi033, _, hsz33, _⟩ := info_parts info5; have hroom33 : t240.length ≤ co32 := (Kd.R_reads' HO242.out).2.1; have hC33 : Kd.C (Kd.int .u8) _ Ao32 t240.length t240 := (Kd.R_reads' HO242.out).2.2; have hcut33 := cut_to (P := Try.prog) 23 5 .i64 Try.underlying23 hi033 Ao32 t240.length co32 (ji24) (of_decide_eq_true (by first | (with_reducible assumption) | assumption)) q33 hroom33; have hr33 := Kd.C_take (m := ((ji24) : Int).toNat) hC33 (by omega); have hy33 : y244.length = ((ji24) : Int).toNat := (by rw [Ny244.out, List.length_take]; omega); rw [← Ny244.out] at hr33; rw [← hy33] at hcut33; have HR247 := Aside0.mk hr33; have HC247 := Aside0.mk (show y244.length ≤ co32 from by omega); clear hr33 hC33 hroom33 hi033 hsz33; have KY33 := Aside0.mk hy33; clear hy33; have KL33 := Aside0.mk (show ((ji24) : Int).toNat ≤ t240.length from by omega); replace q33 := eq_true q33) | ((with_reducible refine gate_callee (f := 13) rfl ?_); refine Cz.gL (N := (some 85)) Try.func13 #[.slice Ao32 y244.length co32] ?_; (with_reducible refine (change_Read.calls _ _ y244 t248 t249 t250 t251 t252 t255 t258 _ ?side1 ?side2 A27.out).mono ?_); (case side1 => repeat (first | exact (by repeat (first | (with_reducible exact HR247.out) | (with_reducible refine Kd.C_alloc ?_ _) | (with_reducible refine Kd.C_drewN ?_ _) | (with_reducible refine Kd.C_drew ?_) | exact HR247.out)) | (with_reducible refine Kd.C_alloc ?_ _) | (with_reducible refine Kd.C_drewN ?_ _) | (with_reducible refine Kd.C_drew ?_))); (case side2 => exact HC247.out); rintro e w34 ⟨v253, v256, rfl, ho0, ho1, hb⟩; refine ⟨_, rfl, ?_⟩; have n0_ := Aside0.mk (Kd.R_elder' (by (with_reducible repeat (first | apply Kd.R_alloc | apply Kd.R_drewN | apply Kd.R_drew)); exact HO242.out) (Kd.R_base ho0) hb); have n1_ := Aside0.mk (Kd.R_lower (Kd.R_new' ho0 (Kd.R_lt (by (with_reducible repeat (first | apply Kd.R_alloc | apply Kd.R_drewN | apply Kd.R_drew)); exact HO242.out))) (below_size (by repeat (first | (with_reducible first | exact HB.out | apply below_alloc | apply pw_below_drewN | apply below_drew1 | refine below_set ?_ GE236.out) | exact HB.out)))); have n2_ := Aside0.mk (Kd.S_lower (Kd.S_new' ho1 (Kd.R_lt (by (with_reducible repeat (first | apply Kd.R_alloc | apply Kd.R_drewN | apply Kd.R_drew)); exact HO242.out))) (below_size (by repeat (first | (with_reducible first | exact HB.out | apply below_alloc | apply pw_below_drewN | apply below_drew1 | refine below_set ?_ GE236.out) | exact HB.out)))); have n3_ := Cz.bk BK236 hb; have n4_ := Aside0.mk (Kd.C_below (by repeat (first | (with_reducible exact HR247.out) | (with_reducible refine Kd.C_alloc ?_ _) | (with_reducible refine Kd.C_drewN ?_ _) | (with_reducible refine Kd.C_drew ?_) | exact HR247.out)) hb); have n5_ := Cz.bs (w := w) hb; clear HO242; clear BK236; clear HR247; clear HB; have HO242 := n0_; have HO254 := n1_; have HO257 := n2_; have BK236 := n3_; have HR247 := n4_; have HB := n5_; clear n0_ n1_ n2_ n3_ n4_ n5_; (try clear hb); (try clear hb2); (try clear hk); (try clear hi); (try clear ho0); (try clear ho1)) | ((with_reducible refine gate_dst (N := 10) rfl ?_); (try (refine gate_guard (by rfl) ?_; dsimp only)); refine box_event ?hg (N := 10) ?hd (cs := #[.int .i64 0, .int .i64 0, .int .i64 0, .int .i64 0, .slice none 0 0, .slice none 0 0]) (t := 26) ?hr ?_; (case hd => rfl); (case hg => rfl); (case hr => first | (go_simp; done) | (go_simp; rfl)); intro gb259 hg w35 hbox hb; have n0_ := Cz.rb HO242 hb; have n1_ := Cz.rb HO254 hb; have n2_ := Aside0.mk (Kd.S_below (by (with_reducible repeat (first | apply Kd.S_alloc | apply Kd.S_drewN | apply Kd.S_drew)); exact HO257.out) hb); have n3_ := Cz.bk BK236 hb; have n4_ := Aside0.mk (Kd.C_below (by repeat (first | (with_reducible exact HR247.out) | (with_reducible refine Kd.C_alloc ?_ _) | (with_reducible refine Kd.C_drewN ?_ _) | (with_reducible refine Kd.C_drew ?_) | exact HR247.out)) hb); have n5_ := Cz.bs (w := w) hb; have n6_ := Aside0.mk (hbox); have n7_ := Aside0.mk ((Cz.gs hg : w.heap.size ≤ gb259)); have n8_ := Aside0.mk ((Cz.gs hg : w.heap.size ≤ gb259)); have n9_ := Aside0.mk ((Cz.nl BK236 hg : gb236 ≠ gb259)); have n10_ := Aside0.mk ((Cz.nr BK236 hg : gb259 ≠ gb236)); clear HO242; clear HO254; clear HO257; clear BK236; clear HR247; clear HB; have HO242 := n0_; have HO254 := n1_; have HO257 := n2_; have BK236 := n3_; have HR247 := n4_; have HB := n5_; have BK259 := n6_; have GW259 := n7_; have GE259 := n8_; have NB236_259 := n9_; have NB259_236 := n10_; clear n0_ n1_ n2_ n3_ n4_ n5_ n6_ n7_ n8_ n9_ n10_; clear hb hbox hg; have hnb36 := NB259_236.out; have hnc36 := NB236_259.out; obtain ⟨hcz37_0, hcz37_1, hcz37_2, hcz37_3, hcz37_4, hcz37_5, hfz37_0, hfz37_1, hfz37_2, hfz37_3, hfz37_4, hfz37_5⟩ := Cz.d6 BK259; obtain ⟨Ao38, co38, eo38⟩ := Kd.R_slice HO254.out; subst eo38; obtain ⟨Ao39, co39, eo39⟩ := Kd.S_slice HO257.out; subst eo39))
               go_ret
               exact ⟨by first | rfl | (exact congrArg (fun z_ => Ending.returned (Value.bool z_)) HRT.out) | (rw [HRT.out]; done) | (simp [errW_none, errW_some] <;> rfl) | (simp only [← hji22, ← hji24]; first | rfl | (simp [errW_none, errW_some] <;> rfl)) | (simp [*, errW_none, errW_some] <;> rfl), by repeat (first | (with_reducible first | exact HB.out | apply below_alloc | apply pw_below_drewN | apply below_drew1 | refine below_set ?_ GE236.out | refine below_set ?_ GE259.out) | exact HB.out)⟩
              ·rw [if_neg c29] at H
               first | exact absurd H (by simp; done) | skip
             ·replace c28 := Bool.eq_false_iff.mpr c28
              subst c28
              have H1 : (some false) = some true := by rw [if_neg (show ¬ (false = true) by decide)] at H <;> exact H
              exact absurd H1 (by simp)
            ·rw [if_neg c26] at H
             exact absurd H (by simp)
           ·rw [if_neg c25] at H
            exact absurd H (by simp)
         ·rw [if_neg c21] at H
          have c21b0 : (t243 == 0) = false := beq_eq_false_iff_ne.mpr c21
          have c21b1 : (t243 != 0) = true := bne_iff_ne.mpr c21
          by_cases c60 : t237 = true
          ·subst c60
           rw [if_pos rfl] at H
           by_cases c61 : t243 = 100
           ·rw [if_pos c61] at H
            have c61b0 : (t243 == 100) = true := beq_iff_eq.mpr c61
            have c61b1 : (t243 != 100) = false := bne_eq_false_iff_eq.mpr c61
            clear c61
            (have HRT := Aside0.mk (Option.some.inj H); clear H)
            obtain ⟨hcz62_0, hcz62_1, hcz62_2, hcz62_3, hcz62_4, hcz62_5, hfz62_0, hfz62_1, hfz62_2, hfz62_3, hfz62_4, hfz62_5⟩ := Cz.d6 BK236
            go_wp2_with (first | ((with_reducible refine gate_callee (f := 11) rfl ?_); refine Cz.gL (N := (some 61)) Try.func11 #[.agg #[.int .i64 a0_0, .int .i64 a0_1, .int .i64 a0_2, .int .i64 a0_3, .slice A0_4 l0_4.length c0_4, .slice A0_5 l0_5.length c0_5]] ?_; (with_reducible refine (change_Write.calls a0_0 a0_1 a0_2 a0_3 _ _ l0_4 _ _ l0_5 t240 t243 _ ?side1 ?side2 ?side3 ?side4 A20.out).mono ?_); (case side1 => exact Cz.cb HR0_4); (case side2 => exact HC0_4.out); (case side3 => exact Cz.cb HR0_5); (case side4 => exact HC0_5.out); rintro e w63 ⟨v241, rfl, ho0, hb⟩; refine ⟨_, rfl, ?_⟩; have n0_ := Aside0.mk (Kd.R_lower ho0 (below_size (by repeat (first | (with_reducible first | exact HB.out | apply below_alloc | apply pw_below_drewN | apply below_drew1 | refine below_set ?_ GE236.out) | exact HB.out)))); have n1_ := Cz.bk BK236 hb; have n2_ := Cz.bs (w := w) hb; clear BK236; clear HB; have HO242 := n0_; have BK236 := n1_; have HB := n2_; clear n0_ n1_ n2_; (try clear hb); (try clear hb2); (try clear hk); (try clear hi); (try clear ho0); obtain ⟨Ao64, co64, eo64⟩ := Kd.R_slice HO242.out; subst eo64))
            go_ret
            exact ⟨by first | rfl | (exact congrArg (fun z_ => Ending.returned (Value.bool z_)) HRT.out) | (rw [HRT.out]; done) | (simp [errW_none, errW_some] <;> rfl) | (simp [*, errW_none, errW_some] <;> rfl), by repeat (first | (with_reducible first | exact HB.out | apply below_alloc | apply pw_below_drewN | apply below_drew1 | refine below_set ?_ GE236.out) | exact HB.out)⟩
           ·rw [if_neg c61] at H
            first | exact absurd H (by simp; done) | skip
          ·replace c60 := Bool.eq_false_iff.mpr c60
           subst c60
           have H1 : (some false) = some true := by rw [if_neg (show ¬ (false = true) by decide)] at H <;> exact H
           exact absurd H1 (by simp)
end Go.Proofs.Ytmgohkffphogdaa.PS
