/- Functions of the program as Lean functions, and that the Go code comes to just their answers: no condition but that the function says so. (Written by a program of this workplace over the kit's print, with contracts by hand.) -/
import Derived.Test.YtohkmmbmfhficaaCz
import Derived.Test.YtohkmmbmfhficaaPBx11
import Derived.Test.YtohkmmbmfhficaaPBx45
import Derived.Test.YtohkmmbmfhficaaPBx29
import Derived.Test.YtohkmmbmfhficaaPBx38
import Derived.Test.YtohkmmbmfhficaaPBx42
import Derived.Test.YtohkmmbmfhficaaPBx44
namespace Go.Proofs.Ytohkmmbmfhficaa.PB
open Go.Proofs.Ytohkmmbmfhficaa Go.RowKit Go.Proofs.YtohkmmbmfhficaaW.PrintWords Go.Proofs.YtohkmmbmfhficaaW.PrintLast Go.Proofs.YtohkmmbmfhficaaW.PrintMore
attribute [local go_sem] max2_int min2_int max_two min_two max_three min_three max_four min_four   -- for this text's walks alone
set_option linter.unusedVariables false
set_option linter.unusedSimpArgs false

/-! ### waggonerlaw16_awake: function 18 -/
def waggonerlaw16_awake.f : Option Bool := some true
theorem waggonerlaw16_awake.tells : waggonerlaw16_awake_p.f = some true := by kernel_rfl
theorem waggonerlaw16_awake.calls (r : Bool) (w : World) (h : waggonerlaw16_awake.f = some r) :
  Calls Try.prog 18 #[] w fun e w' => e = .returned (.bool r) ∧ Below w.heap.size w w' := by
 unfold waggonerlaw16_awake.f at h
 obtain rfl := Option.some.inj h
 exact waggonerlaw16_awake_p.calls true rfl w waggonerlaw16_awake.tells
/-! ### waggonerlaw16_FrameBack: function 7 -/
def waggonerlaw16_FrameBack.j0 : Nat → List Int → Int → Bool → Bool → Int → Int → Int → List Int → Int → Int → Int → Option (Bool)
 | 0, _, _, _, _, _, _, _, _, _, _, _ => none
 | k + 1, x1, x2, x7, x26, x267000, x267001, x267002, x267003, x267004, x267005, x267006 => if x26 = true then (some x7) else ((frame_Write.f x267000 x267001 x267002 x267003 x267004 x267005 x267006).bind fun bt268 => (if bt268.2 = 0 then (if (bt268.1.length : Int) < 9 then (some false) else ((some (([] : List Int) : List Int)).bind fun y273 => (if y273.length + bt268.1.length < 140737488355328 then ((some (y273 ++ bt268.1 : List Int)).bind fun y276 => (if y276.length + x1.length < 140737488355328 then ((frame_Read.f (y276 ++ x1)).bind fun bt282 => (if (bt268.1.length : Int) = 0 then (none) else (if 0 ≤ (Int.tmod (wrap64 (x2)) (bt268.1.length : Int)) then (if (Int.tmod (wrap64 (x2)) (bt268.1.length : Int)) ≤ (bt268.1.length : Int) then ((frame_Read.f (bt268.1.take ((Int.tmod (wrap64 (x2)) (bt268.1.length : Int)) : Int).toNat)).bind fun bt298 => ((waggonerref16_Same.f x267000 x267001 x267002 x267003 x267004 x267005 x267006 bt282.1 bt282.2.1 bt282.2.2.1 bt282.2.2.2.1 bt282.2.2.2.2.1 bt282.2.2.2.2.2.1 bt282.2.2.2.2.2.2.1).bind fun t310 => (if x7 = true then (if t310 = true then (if bt282.2.2.2.2.2.2.2.1 = (bt268.1.length : Int) then (if bt282.2.2.2.2.2.2.2.2 = 0 then (if bt298.2.2.2.2.2.2.2.1 = 0 then (some (bt298.2.2.2.2.2.2.2.2 == 161)) else (some false)) else (some false)) else (some false)) else (some false)) else (some false)))) else (none)) else (none)))) else (none))) else (none)))) else (if x7 = true then (if (bt268.1.length : Int) = 0 then ((frame_Check.f x267000 x267001 x267002 x267003 x267004 x267005 x267006).bind fun t272 => (some (!t272))) else (some false)) else (some false))))
def waggonerlaw16_FrameBack.f (k : Nat) (a0_0 : Int) (a0_1 : Int) (a0_2 : Int) (l0_3 : List Int) (a0_4 : Int) (a0_5 : Int) (a0_6 : Int) (l1 : List Int) (a2 : Int) : Option (Bool) := (waggonerlaw16_awake.f).bind fun t267 => (if (l0_3.length : Int) > 5000 then (waggonerlaw16_FrameBack.j0 k l1 a2 t267 true a0_0 a0_1 a0_2 l0_3 a0_4 a0_5 a0_6) else (waggonerlaw16_FrameBack.j0 k l1 a2 t267 (decide ((l1.length : Int) > 5000)) a0_0 a0_1 a0_2 l0_3 a0_4 a0_5 a0_6))
theorem waggonerlaw16_FrameBack.mono_l : ∀ k, (∀ y0 y1 y2 y3 y4 y5 y6 y7 y8 y9 y10, LeO (waggonerlaw16_FrameBack.j0 k y0 y1 y2 y3 y4 y5 y6 y7 y8 y9 y10) (waggonerlaw16_FrameBack.j0 (k + 1) y0 y1 y2 y3 y4 y5 y6 y7 y8 y9 y10))
 | 0 => fun _ _ _ _ _ _ _ _ _ _ _ r h => by simp [waggonerlaw16_FrameBack.j0] at h
 | k + 1 => by
  have ih0 := waggonerlaw16_FrameBack.mono_l k
  ·intro y0 y1 y2 y3 y4 y5 y6 y7 y8 y9 y10
   unfold waggonerlaw16_FrameBack.j0
   repeat' first
   | (with_reducible exact ih0 _ _ _ _ _ _ _ _ _ _ _)
   | (with_reducible exact LeO.refl _)
   | (with_reducible exact LeO.none _)
   | (with_reducible refine LeO.ite ?_ ?_)
   | (with_reducible refine LeO.bind ?_ (fun _ => ?_))
   | exact ih0 _ _ _ _ _ _ _ _ _ _ _
   | exact LeO.none _
   | refine LeO.ite ?_ ?_
   | refine LeO.bind ?_ (fun _ => ?_)
theorem waggonerlaw16_FrameBack.mono : ∀ a0 a1 a2 a3 a4 a5 a6 a7 a8 k, LeO (waggonerlaw16_FrameBack.f k a0 a1 a2 a3 a4 a5 a6 a7 a8) (waggonerlaw16_FrameBack.f (k + 1) a0 a1 a2 a3 a4 a5 a6 a7 a8) := by
 intro a0 a1 a2 a3 a4 a5 a6 a7 a8 k
 have ih0 := waggonerlaw16_FrameBack.mono_l k
 unfold waggonerlaw16_FrameBack.f
 repeat' first
   | (with_reducible exact ih0 _ _ _ _ _ _ _ _ _ _ _)
   | (with_reducible exact LeO.refl _)
   | (with_reducible exact LeO.none _)
   | (with_reducible refine LeO.ite ?_ ?_)
   | (with_reducible refine LeO.bind ?_ (fun _ => ?_))
   | exact ih0 _ _ _ _ _ _ _ _ _ _ _
   | exact LeO.none _
   | refine LeO.ite ?_ ?_
   | refine LeO.bind ?_ (fun _ => ?_)
set_option maxHeartbeats 8000000 in
set_option maxRecDepth 100000 in
theorem waggonerlaw16_FrameBack.calls (k : Nat) (a0_0 : Int) (a0_1 : Int) (a0_2 : Int) (A0_3 : Option Addr) (c0_3 : Nat) (l0_3 : List Int) (a0_4 : Int) (a0_5 : Int) (a0_6 : Int) (A1 : Option Addr) (c1 : Nat) (l1 : List Int) (a2 : Int) (r : Bool) (hT : r = true) (w : World) (hr0_3 : Kd.C (Kd.int .u8) w A0_3 l0_3.length l0_3) (hc0_3 : l0_3.length ≤ c0_3) (hr1 : Kd.C (Kd.int .u8) w A1 l1.length l1) (hc1 : l1.length ≤ c1) (h : waggonerlaw16_FrameBack.f k a0_0 a0_1 a0_2 l0_3 a0_4 a0_5 a0_6 l1 a2 = some r) :
  Calls Try.prog 7 #[.agg #[.int .i64 a0_0, .int .i64 a0_1, .int .i64 a0_2, .slice A0_3 l0_3.length c0_3, .int .i64 a0_4, .int .i64 a0_5, .int .i64 a0_6], .slice A1 l1.length c1, .int .u16 a2] w fun e w' => e = .returned (.bool r) ∧ Below w.heap.size w w' := by
 subst hT
 have hu38 := Try.underlying38
 have HR0_3 := Aside0.mk hr0_3
 have HC0_3 := Aside0.mk hc0_3
 clear hr0_3 hc0_3
 have HR1 := Aside0.mk hr1
 have HC1 := Aside0.mk hc1
 clear hr1 hc1
 have HB := Aside0.mk (Below.refl w.heap.size w)
 have H : ((waggonerlaw16_awake.f).bind fun t267 => (if (l0_3.length : Int) > 5000 then (waggonerlaw16_FrameBack.j0 k l1 a2 t267 true a0_0 a0_1 a0_2 l0_3 a0_4 a0_5 a0_6) else (waggonerlaw16_FrameBack.j0 k l1 a2 t267 (decide ((l1.length : Int) > 5000)) a0_0 a0_1 a0_2 l0_3 a0_4 a0_5 a0_6))) = some true := h
 clear h
 replace H := Option.bind_eq_some_iff.mp H
 obtain ⟨t267, A40, H⟩ := H
 (try dsimp only at H)
 have A4 := Aside0.mk A40
 clear A40
 have HC5 := Aside0.mk H
 clear H
 go_enter Try.func7, Try.ntmps7
 go_upto_region 2 with (first | ((with_reducible refine gate_dst (N := 3) rfl ?_); (try (refine gate_guard (by rfl) ?_; dsimp only)); refine box_event ?hg (N := 3) ?hd (cs := #[.int .i64 a0_0, .int .i64 a0_1, .int .i64 a0_2, .slice A0_3 l0_3.length c0_3, .int .i64 a0_4, .int .i64 a0_5, .int .i64 a0_6]) (t := 38) ?hr ?_; (case hd => rfl); (case hg => rfl); (case hr => first | (go_simp; done) | (go_simp; rfl)); intro gb266 hg w6 hbox hb; have n0_ := Cz.bs (w := w) hb; have n1_ := Aside0.mk (hbox); have n2_ := Aside0.mk ((Cz.gs hg : w.heap.size ≤ gb266)); have n3_ := Aside0.mk ((Cz.gs hg : w.heap.size ≤ gb266)); clear HB; have HB := n0_; have BK266 := n1_; have GW266 := n2_; have GE266 := n3_; clear n0_ n1_ n2_ n3_; clear hb hbox hg) | ((with_reducible refine gate_callee (f := 18) rfl ?_); refine Cz.gL (N := (some 17)) Try.func18 #[] ?_; (with_reducible refine (waggonerlaw16_awake.calls  t267 _ A4.out).mono ?_); rintro e w7 ⟨rfl, hb⟩; refine ⟨_, rfl, ?_⟩; have n0_ := Cz.bk BK266 hb; have n1_ := Cz.bs (w := w) hb; clear BK266; clear HB; have BK266 := n0_; have HB := n1_; clear n0_ n1_; (try clear hb); (try clear hb2); (try clear hk); (try clear hi)))
 (try simp only [Act.put, Kx.sb, Kx.sz, Kx.ss])
 go_cut [26] (fun v26 wc => ∃ (kq : Nat) (x26_4 : Bool), v26 = .bool x26_4 ∧ Aside0 (waggonerlaw16_FrameBack.j0 kq l1 a2 t267 x26_4 a0_0 a0_1 a0_2 l0_3 a0_4 a0_5 a0_6 = some true) ∧ Aside0 (kq ≤ k) ∧ Aside0 (wc.heap[gb266]? = some (.cells #[.int .i64 a0_0, .int .i64 a0_1, .int .i64 a0_2, (.slice A0_3 l0_3.length c0_3), .int .i64 a0_4, .int .i64 a0_5, .int .i64 a0_6] 38 (0, 0))) ∧ Aside0 (Below w.heap.size w wc))
 case first =>
  have H := HC5.out
  clear HC5
  by_cases c8 : (l0_3.length : Int) > 5000
  ·rw [if_pos c8] at H
   have c8b0 : decide (5000 < (l0_3.length : Int)) = true := decide_eq_true c8
   have c8b1 : decide (5000 < l0_3.length) = true := decide_eq_true (by omega)
   clear c8
   (first | rw [c8b0] | (simp only [i64_w, i32_w]; rw [c8b0]) | skip)
   have H' := Aside0.mk H
   clear H
   obtain ⟨hcz9_0, hcz9_1, hcz9_2, hcz9_3, hcz9_4, hcz9_5, hcz9_6, hfz9_0, hfz9_1, hfz9_2, hfz9_3, hfz9_4, hfz9_5, hfz9_6⟩ := Cz.d7 BK266
   go_wp2
   go_meet
   case rel => exact ⟨_, (true), (by first | rfl | (simp; done) | (simp [*]; done)), H', ⟨by first | omega | exact Nat.le_refl _⟩, ⟨by (with_reducible repeat (first | refine blk_drewN ?_ _ | refine blk_drew ?_ | refine blk_alloc ?_ _)); exact BK266.out⟩, ⟨by repeat (first | (with_reducible first | exact HB.out | apply below_alloc | apply pw_below_drewN | apply below_drew1 | refine below_set ?_ GE266.out) | exact HB.out)⟩⟩
  ·rw [if_neg c8] at H
   have c8b0 : decide (5000 < (l0_3.length : Int)) = false := decide_eq_false c8
   have c8b1 : decide (5000 < l0_3.length) = false := decide_eq_false (by omega)
   clear c8
   (first | rw [c8b0] | (simp only [i64_w, i32_w]; rw [c8b0]) | skip)
   have H' := Aside0.mk H
   clear H
   obtain ⟨hcz10_0, hcz10_1, hcz10_2, hcz10_3, hcz10_4, hcz10_5, hcz10_6, hfz10_0, hfz10_1, hfz10_2, hfz10_3, hfz10_4, hfz10_5, hfz10_6⟩ := Cz.d7 BK266
   go_wp2
   go_meet
   case rel => exact ⟨_, (decide ((l1.length : Int) > 5000)), (by first | rfl | (simp; done) | (simp [*]; done)), H', ⟨by first | omega | exact Nat.le_refl _⟩, ⟨by (with_reducible repeat (first | refine blk_drewN ?_ _ | refine blk_drew ?_ | refine blk_alloc ?_ _)); exact BK266.out⟩, ⟨by repeat (first | (with_reducible first | exact HB.out | apply below_alloc | apply pw_below_drewN | apply below_drew1 | refine below_set ?_ GE266.out) | exact HB.out)⟩⟩
 case rest =>
  clear HC5
  try clear c1
  try clear p2
  try clear c7
  try clear c8
  try clear c8b0
  try clear c8b1
  try clear hcz10_0
  try clear hcz10_1
  try clear hcz10_2
  try clear hcz10_3
  try clear hcz10_4
  try clear hcz10_5
  try clear hcz10_6
  try clear hcz9_0
  try clear hcz9_1
  try clear hcz9_2
  try clear hcz9_3
  try clear hcz9_4
  try clear hcz9_5
  try clear hcz9_6
  try clear hfz10_0
  try clear hfz10_1
  try clear hfz10_2
  try clear hfz10_3
  try clear hfz10_4
  try clear hfz10_5
  try clear hfz10_6
  try clear hfz9_0
  try clear hfz9_1
  try clear hfz9_2
  try clear hfz9_3
  try clear hfz9_4
  try clear hfz9_5
  try clear hfz9_6
  obtain ⟨kq, x26_4, rfl, HA, HJ4, BK266, HB⟩ := hcut
  cases kq with
  | zero => exact absurd HA.out (by simp [waggonerlaw16_FrameBack.j0])
  | succ kj4 =>
   have H := HA.out
   clear HA
   simp only [waggonerlaw16_FrameBack.j0] at H
   by_cases c11 : x26_4 = true
   ·subst c11
    rw [if_pos rfl] at H
    (have HRT := Aside0.mk (Option.some.inj H); clear H)
    go_wp2
    go_ret
    exact ⟨by first | rfl | (exact congrArg (fun z_ => Ending.returned (Value.bool z_)) HRT.out) | (rw [HRT.out]; done) | (simp [errW_none, errW_some] <;> rfl) | (simp [*, errW_none, errW_some] <;> rfl), by repeat (first | (with_reducible first | exact HB.out | apply below_alloc | apply pw_below_drewN | apply below_drew1 | refine below_set ?_ GE266.out) | exact HB.out)⟩
   ·replace c11 := Bool.eq_false_iff.mpr c11
    subst c11
    rw [if_neg (show ¬ (false = true) by decide)] at H
    replace H := Option.bind_eq_some_iff.mp H
    obtain ⟨⟨t268, t271⟩, A120, H⟩ := H
    (try dsimp only at H)
    have A12 := Aside0.mk A120
    clear A120
    by_cases c13 : t271 = 0
    ·rw [if_pos c13] at H
     have c13b0 : (t271 == 0) = true := beq_iff_eq.mpr c13
     have c13b1 : (t271 != 0) = false := bne_eq_false_iff_eq.mpr c13
     clear c13
     by_cases c14 : (t268.length : Int) < 9
     ·rw [if_pos c14] at H
      have c14b0 : decide ((t268.length : Int) < 9) = true := decide_eq_true c14
      have c14b1 : decide (t268.length < 9) = true := decide_eq_true (by omega)
      clear c14
      (have HRT := Aside0.mk (Option.some.inj H); clear H)
      obtain ⟨hcz15_0, hcz15_1, hcz15_2, hcz15_3, hcz15_4, hcz15_5, hcz15_6, hfz15_0, hfz15_1, hfz15_2, hfz15_3, hfz15_4, hfz15_5, hfz15_6⟩ := Cz.d7 BK266
      go_wp2_with (first | ((with_reducible refine gate_callee (f := 19) rfl ?_); refine Cz.gL (N := (some 30)) Try.func19 #[.agg #[.int .i64 a0_0, .int .i64 a0_1, .int .i64 a0_2, .slice A0_3 l0_3.length c0_3, .int .i64 a0_4, .int .i64 a0_5, .int .i64 a0_6]] ?_; (with_reducible refine (frame_Write.calls a0_0 a0_1 a0_2 _ _ l0_3 a0_4 a0_5 a0_6 t268 t271 _ ?side1 ?side2 A12.out).mono ?_); (case side1 => exact Cz.cb HR0_3); (case side2 => exact HC0_3.out); rintro e w16 ⟨v269, rfl, ho0, hb⟩; refine ⟨_, rfl, ?_⟩; have n0_ := Aside0.mk (Kd.R_lower ho0 (below_size (by repeat (first | (with_reducible first | exact HB.out | apply below_alloc | apply pw_below_drewN | apply below_drew1 | refine below_set ?_ GE266.out) | exact HB.out)))); have n1_ := Cz.bk BK266 hb; have n2_ := Cz.bs (w := w) hb; clear BK266; clear HB; have HO270 := n0_; have BK266 := n1_; have HB := n2_; clear n0_ n1_ n2_; (try clear hb); (try clear hb2); (try clear hk); (try clear hi); (try clear ho0); obtain ⟨Ao17, co17, eo17⟩ := Kd.R_slice HO270.out; subst eo17))
      go_ret
      exact ⟨by first | rfl | (exact congrArg (fun z_ => Ending.returned (Value.bool z_)) HRT.out) | (rw [HRT.out]; done) | (simp [errW_none, errW_some] <;> rfl) | (simp [*, errW_none, errW_some] <;> rfl), by repeat (first | (with_reducible first | exact HB.out | apply below_alloc | apply pw_below_drewN | apply below_drew1 | refine below_set ?_ GE266.out) | exact HB.out)⟩
     ·rw [if_neg c14] at H
      have c14b0 : decide ((t268.length : Int) < 9) = false := decide_eq_false c14
      have c14b1 : decide (t268.length < 9) = false := decide_eq_false (by omega)
      clear c14
      obtain ⟨y273, hy273⟩ : ∃ y_ : List Int, y_ = (([] : List Int)) := ⟨_, rfl⟩
      replace H : (if y273.length + t268.length < 140737488355328 then ((some (y273 ++ t268 : List Int)).bind fun y276 => (if y276.length + l1.length < 140737488355328 then ((frame_Read.f (y276 ++ l1)).bind fun bt282 => (if (t268.length : Int) = 0 then (none) else (if 0 ≤ (Int.tmod (wrap64 (a2)) (t268.length : Int)) then (if (Int.tmod (wrap64 (a2)) (t268.length : Int)) ≤ (t268.length : Int) then ((frame_Read.f (t268.take ((Int.tmod (wrap64 (a2)) (t268.length : Int)) : Int).toNat)).bind fun bt298 => ((waggonerref16_Same.f a0_0 a0_1 a0_2 l0_3 a0_4 a0_5 a0_6 bt282.1 bt282.2.1 bt282.2.2.1 bt282.2.2.2.1 bt282.2.2.2.2.1 bt282.2.2.2.2.2.1 bt282.2.2.2.2.2.2.1).bind fun t310 => (if t267 = true then (if t310 = true then (if bt282.2.2.2.2.2.2.2.1 = (t268.length : Int) then (if bt282.2.2.2.2.2.2.2.2 = 0 then (if bt298.2.2.2.2.2.2.2.1 = 0 then (some (bt298.2.2.2.2.2.2.2.2 == 161)) else (some false)) else (some false)) else (some false)) else (some false)) else (some false)))) else (none)) else (none)))) else (none))) else (none)) = some true := by first | (rw [hy273]; with_reducible exact H) | (have H2_ := (Option.bind_some _ _).symm.trans H; rw [hy273]; with_reducible exact H2_) | (have H2_ := (Option.bind_some _ _).symm.trans H; with_reducible exact H2_) | with_reducible exact H | (rw [hy273]; exact H) | exact H
      have Ny273 := Aside0.mk hy273
      clear hy273
      by_cases c18 : y273.length + t268.length < 140737488355328
      ·rw [if_pos c18] at H
       have LMc18 := Aside0.mk c18
       clear c18
       obtain ⟨y276, hy276⟩ : ∃ y_ : List Int, y_ = (y273 ++ t268) := ⟨_, rfl⟩
       replace H : (if y276.length + l1.length < 140737488355328 then ((frame_Read.f (y276 ++ l1)).bind fun bt282 => (if (t268.length : Int) = 0 then (none) else (if 0 ≤ (Int.tmod (wrap64 (a2)) (t268.length : Int)) then (if (Int.tmod (wrap64 (a2)) (t268.length : Int)) ≤ (t268.length : Int) then ((frame_Read.f (t268.take ((Int.tmod (wrap64 (a2)) (t268.length : Int)) : Int).toNat)).bind fun bt298 => ((waggonerref16_Same.f a0_0 a0_1 a0_2 l0_3 a0_4 a0_5 a0_6 bt282.1 bt282.2.1 bt282.2.2.1 bt282.2.2.2.1 bt282.2.2.2.2.1 bt282.2.2.2.2.2.1 bt282.2.2.2.2.2.2.1).bind fun t310 => (if t267 = true then (if t310 = true then (if bt282.2.2.2.2.2.2.2.1 = (t268.length : Int) then (if bt282.2.2.2.2.2.2.2.2 = 0 then (if bt298.2.2.2.2.2.2.2.1 = 0 then (some (bt298.2.2.2.2.2.2.2.2 == 161)) else (some false)) else (some false)) else (some false)) else (some false)) else (some false)))) else (none)) else (none)))) else (none)) = some true := by first | (rw [hy276]; with_reducible exact H) | (have H2_ := (Option.bind_some _ _).symm.trans H; rw [hy276]; with_reducible exact H2_) | (have H2_ := (Option.bind_some _ _).symm.trans H; with_reducible exact H2_) | with_reducible exact H | (rw [hy276]; exact H) | exact H
       have Ny276 := Aside0.mk hy276
       clear hy276
       by_cases c19 : y276.length + l1.length < 140737488355328
       ·rw [if_pos c19] at H
        have LMc19 := Aside0.mk c19
        clear c19
        obtain ⟨y279, hy279⟩ : ∃ y_ : List Int, y_ = (y276 ++ l1) := ⟨_, rfl⟩
        replace H : ((frame_Read.f y279).bind fun bt282 => (if (t268.length : Int) = 0 then (none) else (if 0 ≤ (Int.tmod (wrap64 (a2)) (t268.length : Int)) then (if (Int.tmod (wrap64 (a2)) (t268.length : Int)) ≤ (t268.length : Int) then ((frame_Read.f (t268.take ((Int.tmod (wrap64 (a2)) (t268.length : Int)) : Int).toNat)).bind fun bt298 => ((waggonerref16_Same.f a0_0 a0_1 a0_2 l0_3 a0_4 a0_5 a0_6 bt282.1 bt282.2.1 bt282.2.2.1 bt282.2.2.2.1 bt282.2.2.2.2.1 bt282.2.2.2.2.2.1 bt282.2.2.2.2.2.2.1).bind fun t310 => (if t267 = true then (if t310 = true then (if bt282.2.2.2.2.2.2.2.1 = (t268.length : Int) then (if bt282.2.2.2.2.2.2.2.2 = 0 then (if bt298.2.2.2.2.2.2.2.1 = 0 then (some (bt298.2.2.2.2.2.2.2.2 == 161)) else (some false)) else (some false)) else (some false)) else (some false)) else (some false)))) else (none)) else (none)))) = some true := by first | (rw [hy279]; with_reducible exact H) | (have H2_ := (Option.bind_some _ _).symm.trans H; rw [hy279]; with_reducible exact H2_) | (have H2_ := (Option.bind_some _ _).symm.trans H; with_reducible exact H2_) | with_reducible exact H | (rw [hy279]; exact H) | exact H
        have Ny279 := Aside0.mk hy279
        clear hy279
        replace H := Option.bind_eq_some_iff.mp H
        obtain ⟨⟨t282, t283, t284, t285, t288, t289, t290, t291, t292⟩, A200, H⟩ := H
        (try dsimp only at H)
        have A20 := Aside0.mk A200
        clear A200
        by_cases c21 : (t268.length : Int) = 0
        ·rw [if_pos c21] at H
         exact absurd H (by simp)
        ·rw [if_neg c21] at H
         have c21b0 : ((t268.length : Int) == 0) = false := beq_eq_false_iff_ne.mpr c21
         have c21b1 : ((t268.length : Int) != 0) = true := bne_iff_ne.mpr c21
         have c21b2 : ¬ (t268 = []) := fun h_ => c21 (by rw [h_]; rfl)
         obtain ⟨ji22, hji22⟩ : ∃ j_ : Int, (Int.tmod (wrap64 (a2)) (t268.length : Int)) = j_ := ⟨_, rfl⟩
         replace H : (if 0 ≤ (ji22) then (if (ji22) ≤ (t268.length : Int) then ((frame_Read.f (t268.take ((ji22) : Int).toNat)).bind fun bt298 => ((waggonerref16_Same.f a0_0 a0_1 a0_2 l0_3 a0_4 a0_5 a0_6 t282 t283 t284 t285 t288 t289 t290).bind fun t310 => (if t267 = true then (if t310 = true then (if t291 = (t268.length : Int) then (if t292 = 0 then (if bt298.2.2.2.2.2.2.2.1 = 0 then (some (bt298.2.2.2.2.2.2.2.2 == 161)) else (some false)) else (some false)) else (some false)) else (some false)) else (some false)))) else (none)) else (none)) = some true := by first | (rw [hji22] at H; exact H) | (simp only [hji22] at H ⊢; exact H)
         (try rw [hji22] at A12)
         (try rw [hji22] at A20)
         by_cases c23 : 0 ≤ (ji22)
         ·rw [if_pos c23] at H
          have c23b0 := eq_true c23
          have c23b1 : decide (0 ≤ (ji22)) = true := decide_eq_true c23
          clear c23
          by_cases c24 : (ji22) ≤ (t268.length : Int)
          ·rw [if_pos c24] at H
           have c24b0 := eq_true c24
           have c24b1 : decide ((ji22) ≤ (t268.length : Int)) = true := decide_eq_true c24
           clear c24
           obtain ⟨y294, hy294⟩ : ∃ y_ : List Int, y_ = (t268.take ((ji22) : Int).toNat) := ⟨_, rfl⟩
           replace H : ((frame_Read.f y294).bind fun bt298 => ((waggonerref16_Same.f a0_0 a0_1 a0_2 l0_3 a0_4 a0_5 a0_6 t282 t283 t284 t285 t288 t289 t290).bind fun t310 => (if t267 = true then (if t310 = true then (if t291 = (t268.length : Int) then (if t292 = 0 then (if bt298.2.2.2.2.2.2.2.1 = 0 then (some (bt298.2.2.2.2.2.2.2.2 == 161)) else (some false)) else (some false)) else (some false)) else (some false)) else (some false)))) = some true := by first | (rw [hy294]; with_reducible exact H) | (have H2_ := (Option.bind_some _ _).symm.trans H; rw [hy294]; with_reducible exact H2_) | (have H2_ := (Option.bind_some _ _).symm.trans H; with_reducible exact H2_) | with_reducible exact H | (rw [hy294]; exact H) | exact H
           have Ny294 := Aside0.mk hy294
           clear hy294
           replace H := Option.bind_eq_some_iff.mp H
           obtain ⟨⟨t298, t299, t300, t301, t304, t305, t306, t307, t308⟩, A250, H⟩ := H
           (try dsimp only at H)
           have A25 := Aside0.mk A250
           clear A250
           replace H := Option.bind_eq_some_iff.mp H
           obtain ⟨t310, A260, H⟩ := H
           (try dsimp only at H)
           have A26 := Aside0.mk A260
           clear A260
           by_cases c27 : t267 = true
           ·subst c27
            rw [if_pos rfl] at H
            by_cases c28 : t310 = true
            ·subst c28
             rw [if_pos rfl] at H
             by_cases c29 : t291 = (t268.length : Int)
             ·rw [if_pos c29] at H
              have c29b0 : (t291 == (t268.length : Int)) = true := beq_iff_eq.mpr c29
              have c29b1 : (t291 != (t268.length : Int)) = false := bne_eq_false_iff_eq.mpr c29
              clear c29
              by_cases c30 : t292 = 0
              ·rw [if_pos c30] at H
               have c30b0 : (t292 == 0) = true := beq_iff_eq.mpr c30
               have c30b1 : (t292 != 0) = false := bne_eq_false_iff_eq.mpr c30
               clear c30
               by_cases c31 : t307 = 0
               ·rw [if_pos c31] at H
                have c31b0 : (t307 == 0) = true := beq_iff_eq.mpr c31
                have c31b1 : (t307 != 0) = false := bne_eq_false_iff_eq.mpr c31
                clear c31
                (have HRT := Aside0.mk (Option.some.inj H); clear H)
                obtain ⟨hcz32_0, hcz32_1, hcz32_2, hcz32_3, hcz32_4, hcz32_5, hcz32_6, hfz32_0, hfz32_1, hfz32_2, hfz32_3, hfz32_4, hfz32_5, hfz32_6⟩ := Cz.d7 BK266
                go_wp2_with (first | ((with_reducible refine gate_callee (f := 19) rfl ?_); refine Cz.gL (N := (some 30)) Try.func19 #[.agg #[.int .i64 a0_0, .int .i64 a0_1, .int .i64 a0_2, .slice A0_3 l0_3.length c0_3, .int .i64 a0_4, .int .i64 a0_5, .int .i64 a0_6]] ?_; (with_reducible refine (frame_Write.calls a0_0 a0_1 a0_2 _ _ l0_3 a0_4 a0_5 a0_6 t268 t271 _ ?side1 ?side2 A12.out).mono ?_); (case side1 => exact Cz.cb HR0_3); (case side2 => exact HC0_3.out); rintro e w33 ⟨v269, rfl, ho0, hb⟩; refine ⟨_, rfl, ?_⟩; have n0_ := Aside0.mk (Kd.R_lower ho0 (below_size (by repeat (first | (with_reducible first | exact HB.out | apply below_alloc | apply pw_below_drewN | apply below_drew1 | refine below_set ?_ GE266.out) | exact HB.out)))); have n1_ := Cz.bk BK266 hb; have n2_ := Cz.bs (w := w) hb; clear BK266; clear HB; have HO270 := n0_; have BK266 := n1_; have HB := n2_; clear n0_ n1_ n2_; (try clear hb); (try clear hb2); (try clear hk); (try clear hi); (try clear ho0); obtain ⟨Ao34, co34, eo34⟩ := Kd.R_slice HO270.out; subst eo34) | ((with_reducible refine gate_dst (N := 50) rfl ?_); (try (refine gate_guard (by rfl) ?_; dsimp only)); refine Kd.R_lit (Kd.int .u8) _ 5 ?hg (N := 50) ?hd (xs := ([] : List Int)) (inner := []) (ok := fun _ => True) (okp := fun _ => True) ?hr ?hp (fun _ hk => hk) trivial (Below.refl _ _) (Nat.le_refl _) (by simp) ?_; (case hd => rfl); (case hg => rfl); (case hr => first | (go_simp; done) | (go_simp; rfl)); (case hp => exact (Reps.none _ _)); intro v274 w35 ho36 hb hg_ hnew_; clear hg_ hnew_; (first | rw [← Ny273.out] at ho36 | (simp only [Int.reduceToNat] at ho36; rw [← Ny273.out] at ho36)); have n0_ := Aside0.mk (Kd.R_elder' (by (with_reducible repeat (first | apply Kd.R_alloc | apply Kd.R_drewN | apply Kd.R_drew)); exact HO270.out) (Kd.R_base ho36) hb); have n1_ := Aside0.mk (Kd.R_lower (Kd.R_new' ho36 (Kd.R_lt (by (with_reducible repeat (first | apply Kd.R_alloc | apply Kd.R_drewN | apply Kd.R_drew)); exact HO270.out))) (below_size (by repeat (first | (with_reducible first | exact HB.out | apply below_alloc | apply pw_below_drewN | apply below_drew1 | refine below_set ?_ GE266.out) | exact HB.out)))); have n2_ := Cz.bk BK266 hb; have n3_ := Cz.bs (w := w) hb; clear HO270; clear BK266; clear HB; have HO270 := n0_; have HO275 := n1_; have BK266 := n2_; have HB := n3_; clear n0_ n1_ n2_ n3_; clear hb ho36) | ((with_reducible refine gate_builtin (b := .append) (xs := #[.tmp 50, .tmp 51]) rfl ?_); (try (refine gate_guard (by rfl) ?_; dsimp only)); at_builtin; refine Kd.R_append_rows (Kd.int .u8) (w0 := w) w.heap.size rfl (.tmp 50) (.tmp 51) 27 5 (.int .u8 0) 1 rfl Try.underlying27 info5 rfl (by decide) (by omega) v274 y273 t268 _ _ _ (fun k_ => some k_ ≠ (.slice Ao34 t268.length co34 : Value).ownBlock) (fun _ => False) rfl rfl ?aO ?aR (fun _ _ h => h) (fun _ h => h.elim) ?aF ?aB ?aS ?aL ?_; (case aR => repeat (first | exact (Kd.R_reads' HO270.out).2.2 | (with_reducible refine Kd.C_alloc ?_ _) | (with_reducible refine Kd.C_drewN ?_ _) | (with_reducible refine Kd.C_drew ?_))); (case aB => exact (by repeat (first | (with_reducible first | exact HB.out | apply below_alloc | apply pw_below_drewN | apply below_drew1 | refine below_set ?_ GE266.out) | exact HB.out))); (case aF => exact (fun k_ hk => Kd.fresh' (Kd.R_lt (by (with_reducible repeat (first | apply Kd.R_alloc | apply Kd.R_drewN | apply Kd.R_drew)); exact HO270.out)) k_ hk)); (case aO => exact (by (with_reducible repeat (first | apply Kd.R_alloc | apply Kd.R_drewN | apply Kd.R_drew)); exact Kd.R_mono HO275.out (fun _ hk => hk.2))); (case aS => exact (below_size (by repeat (first | (with_reducible first | exact HB.out | apply below_alloc | apply pw_below_drewN | apply below_drew1 | refine below_set ?_ GE266.out) | exact HB.out)))); (case aL => have := LMc18.out; omega); intro v277 w37 ho hb hg hat; rw [← Ny276.out] at ho; have n0_ := Aside0.mk (blk_grown (g := gb266) (o := .cells #[.int .i64 a0_0, .int .i64 a0_1, .int .i64 a0_2, .slice A0_3 l0_3.length c0_3, .int .i64 a0_4, .int .i64 a0_5, .int .i64 a0_6] 38 (0, 0)) (by (with_reducible repeat (first | refine blk_drewN ?_ _ | refine blk_drew ?_ | refine blk_alloc ?_ _)); exact BK266.out) hg (Kd.R_ne HO275.out BK266.out (by decide))); have n1_ := Aside0.mk (Kd.R_after (ok := (fun _ => True)) (by (with_reducible repeat (first | apply Kd.R_alloc | apply Kd.R_drewN | apply Kd.R_drew)); exact HO270.out) hg hat); have n2_ := Aside0.mk (hb); have n3_ := Aside0.mk (ho); clear BK266; clear HO270; clear HB; clear HO275; have BK266 := n0_; have HO270 := n1_; have HB := n2_; have HO278 := n3_; clear n0_ n1_ n2_ n3_; clear ho hb hg hat) | ((with_reducible refine gate_builtin (b := .append) (xs := #[.tmp 52, .tmp 53]) rfl ?_); (try (refine gate_guard (by rfl) ?_; dsimp only)); at_builtin; refine Kd.R_append_rows (Kd.int .u8) (w0 := w) w.heap.size rfl (.tmp 52) (.tmp 53) 27 5 (.int .u8 0) 1 rfl Try.underlying27 info5 rfl (by decide) (by omega) v277 y276 l1 _ _ _ (fun k_ => some k_ ≠ (.slice Ao34 t268.length co34 : Value).ownBlock) (fun _ => False) rfl rfl ?aO ?aR (fun _ _ h => h) (fun _ h => h.elim) ?aF ?aB ?aS ?aL ?_; (case aR => exact Cz.cb HR1); (case aB => exact (by repeat (first | (with_reducible first | exact HB.out | apply below_alloc | apply pw_below_drewN | apply below_drew1 | refine below_set ?_ GE266.out) | exact HB.out))); (case aF => exact (fun k_ hk => Kd.fresh' (Kd.R_lt (by (with_reducible repeat (first | apply Kd.R_alloc | apply Kd.R_drewN | apply Kd.R_drew)); exact HO270.out)) k_ hk)); (case aO => exact (by (with_reducible repeat (first | apply Kd.R_alloc | apply Kd.R_drewN | apply Kd.R_drew)); exact HO278.out)); (case aS => exact (below_size (by repeat (first | (with_reducible first | exact HB.out | apply below_alloc | apply pw_below_drewN | apply below_drew1 | refine below_set ?_ GE266.out) | exact HB.out)))); (case aL => have := LMc19.out; omega); intro v280 w38 ho hb hg hat; rw [← Ny279.out] at ho; have n0_ := Aside0.mk (blk_grown (g := gb266) (o := .cells #[.int .i64 a0_0, .int .i64 a0_1, .int .i64 a0_2, .slice A0_3 l0_3.length c0_3, .int .i64 a0_4, .int .i64 a0_5, .int .i64 a0_6] 38 (0, 0)) (by (with_reducible repeat (first | refine blk_drewN ?_ _ | refine blk_drew ?_ | refine blk_alloc ?_ _)); exact BK266.out) hg (Kd.R_ne HO278.out BK266.out (by decide))); have n1_ := Aside0.mk (Kd.R_after (ok := (fun _ => True)) (by (with_reducible repeat (first | apply Kd.R_alloc | apply Kd.R_drewN | apply Kd.R_drew)); exact HO270.out) hg hat); have n2_ := Aside0.mk (hb); have n3_ := Aside0.mk (ho); clear BK266; clear HO270; clear HB; clear HO278; have BK266 := n0_; have HO270 := n1_; have HB := n2_; have HO281 := n3_; clear n0_ n1_ n2_ n3_; clear ho hb hg hat; obtain ⟨Ao39, co39, eo39⟩ := Kd.R_slice HO281.out; subst eo39) | ((with_reducible refine gate_callee (f := 21) rfl ?_); refine Cz.gL (N := (some 55)) Try.func21 #[.slice Ao39 y279.length co39] ?_; (with_reducible refine (frame_Read.calls _ _ y279 t282 t283 t284 t285 t288 t289 t290 t291 t292 _ ?side1 ?side2 A20.out).mono ?_); (case side1 => repeat (first | exact (Kd.R_reads' HO281.out).2.2 | (with_reducible refine Kd.C_alloc ?_ _) | (with_reducible refine Kd.C_drewN ?_ _) | (with_reducible refine Kd.C_drew ?_))); (case side2 => exact (Kd.R_reads' HO281.out).2.1); rintro e w40 ⟨v286, rfl, ho0, hb⟩; refine ⟨_, rfl, ?_⟩; have n0_ := Aside0.mk (Kd.R_elder' (by (with_reducible repeat (first | apply Kd.R_alloc | apply Kd.R_drewN | apply Kd.R_drew)); exact HO270.out) (Kd.R_base ho0) hb); have n1_ := Aside0.mk (Kd.R_elder' (by (with_reducible repeat (first | apply Kd.R_alloc | apply Kd.R_drewN | apply Kd.R_drew)); exact HO281.out) (Kd.R_base ho0) hb); have n2_ := Aside0.mk (Kd.R_lower (Kd.R_new' (Kd.R_new' ho0 (Kd.R_lt (by (with_reducible repeat (first | apply Kd.R_alloc | apply Kd.R_drewN | apply Kd.R_drew)); exact HO270.out))) (Kd.R_lt (by (with_reducible repeat (first | apply Kd.R_alloc | apply Kd.R_drewN | apply Kd.R_drew)); exact HO281.out))) (below_size (by repeat (first | (with_reducible first | exact HB.out | apply below_alloc | apply pw_below_drewN | apply below_drew1 | refine below_set ?_ GE266.out) | exact HB.out)))); have n3_ := Cz.bk BK266 hb; have n4_ := Cz.bs (w := w) hb; clear HO270; clear HO281; clear BK266; clear HB; have HO270 := n0_; have HO281 := n1_; have HO287 := n2_; have BK266 := n3_; have HB := n4_; clear n0_ n1_ n2_ n3_ n4_; (try clear hb); (try clear hb2); (try clear hk); (try clear hi); (try clear ho0)) | ((with_reducible refine gate_dst (N := 10) rfl ?_); (try (refine gate_guard (by rfl) ?_; dsimp only)); refine box_event ?hg (N := 10) ?hd (cs := #[.int .i64 0, .int .i64 0, .int .i64 0, .slice none 0 0, .int .i64 0, .int .i64 0, .int .i64 0]) (t := 38) ?hr ?_; (case hd => rfl); (case hg => rfl); (case hr => first | (go_simp; done) | (go_simp; rfl)); intro gb293 hg w41 hbox hb; have n0_ := Cz.rb HO270 hb; have n1_ := Cz.rb HO281 hb; have n2_ := Cz.rb HO287 hb; have n3_ := Cz.bk BK266 hb; have n4_ := Cz.bs (w := w) hb; have n5_ := Aside0.mk (hbox); have n6_ := Aside0.mk ((Cz.gs hg : w.heap.size ≤ gb293)); have n7_ := Aside0.mk ((Cz.gs hg : w.heap.size ≤ gb293)); have n8_ := Aside0.mk ((Cz.nl BK266 hg : gb266 ≠ gb293)); have n9_ := Aside0.mk ((Cz.nr BK266 hg : gb293 ≠ gb266)); clear HO270; clear HO281; clear HO287; clear BK266; clear HB; have HO270 := n0_; have HO281 := n1_; have HO287 := n2_; have BK266 := n3_; have HB := n4_; have BK293 := n5_; have GW293 := n6_; have GE293 := n7_; have NB266_293 := n8_; have NB293_266 := n9_; clear n0_ n1_ n2_ n3_ n4_ n5_ n6_ n7_ n8_ n9_; clear hb hbox hg; have hnb42 := NB293_266.out; have hnc42 := NB266_293.out; obtain ⟨hcz43_0, hcz43_1, hcz43_2, hcz43_3, hcz43_4, hcz43_5, hcz43_6, hfz43_0, hfz43_1, hfz43_2, hfz43_3, hfz43_4, hfz43_5, hfz43_6⟩ := Cz.d7 BK293; obtain ⟨Ao44, co44, eo44⟩ := Kd.R_slice HO287.out; subst eo44) | ((with_reducible refine gate_store (t := 38) (p := 10) rfl ?_); refine store_event (t := 38) (p := 10) (v := ?vo_w45) (w1 := (((((((w41.setCell ⟨gb293, 0, none⟩ (.int .i64 t282)).setCell ⟨gb293, 1, none⟩ (.int .i64 t283)).setCell ⟨gb293, 2, none⟩ (.int .i64 t284)).setCell ⟨gb293, 3, none⟩ (.slice Ao44 t285.length co44)).setCell ⟨gb293, 4, none⟩ (.int .i64 t288)).setCell ⟨gb293, 5, none⟩ (.int .i64 t289)).setCell ⟨gb293, 6, none⟩ (.int .i64 t290))) ?hg ?ho ?hn ?hr ?_; (case ho => rfl); (case hg => rfl); (case hn => rfl); (case hr => first | (go_simp; done) | (go_simp; rfl)); intro w45 hw; have n0_ : Aside0 (Kd.R (Kd.int .u8) 5 w45 w.heap.size (fun k_ => some k_ ≠ (.slice Ao39 y279.length co39 : Value).ownBlock ∧ some k_ ≠ (.slice Ao44 t285.length co44 : Value).ownBlock) (.slice Ao34 t268.length co34) t268) := ⟨(by rw [hw]; exact (by (with_reducible repeat (first | apply Kd.R_alloc | apply Kd.R_drewN | apply Kd.R_drew)); exact Kd.R_mono (Kd.R_far (p := ⟨gb293, 6, none⟩) (Kd.R_far (p := ⟨gb293, 5, none⟩) (Kd.R_far (p := ⟨gb293, 4, none⟩) (Kd.R_far (p := ⟨gb293, 3, none⟩) (Kd.R_far (p := ⟨gb293, 2, none⟩) (Kd.R_far (p := ⟨gb293, 1, none⟩) (Kd.R_far (p := ⟨gb293, 0, none⟩) (Kd.R_types HO270.out BK293.out (by decide)) (fun _ hk => hk.2) (.int .i64 t282)) (fun _ hk => hk.2) (.int .i64 t283)) (fun _ hk => hk.2) (.int .i64 t284)) (fun _ hk => hk.2) (.slice Ao44 t285.length co44)) (fun _ hk => hk.2) (.int .i64 t288)) (fun _ hk => hk.2) (.int .i64 t289)) (fun _ hk => hk.2) (.int .i64 t290)) (fun _ hk => ⟨hk.1.1.2, hk.1.2⟩)))⟩; have n1_ : Aside0 (Kd.R (Kd.int .u8) 5 w45 w.heap.size (fun k_ => some k_ ≠ (.slice Ao34 t268.length co34 : Value).ownBlock ∧ some k_ ≠ (.slice Ao44 t285.length co44 : Value).ownBlock) (.slice Ao39 y279.length co39) y279) := ⟨(by rw [hw]; exact (by (with_reducible repeat (first | apply Kd.R_alloc | apply Kd.R_drewN | apply Kd.R_drew)); exact Kd.R_mono (Kd.R_far (p := ⟨gb293, 6, none⟩) (Kd.R_far (p := ⟨gb293, 5, none⟩) (Kd.R_far (p := ⟨gb293, 4, none⟩) (Kd.R_far (p := ⟨gb293, 3, none⟩) (Kd.R_far (p := ⟨gb293, 2, none⟩) (Kd.R_far (p := ⟨gb293, 1, none⟩) (Kd.R_far (p := ⟨gb293, 0, none⟩) (Kd.R_types HO281.out BK293.out (by decide)) (fun _ hk => hk.2) (.int .i64 t282)) (fun _ hk => hk.2) (.int .i64 t283)) (fun _ hk => hk.2) (.int .i64 t284)) (fun _ hk => hk.2) (.slice Ao44 t285.length co44)) (fun _ hk => hk.2) (.int .i64 t288)) (fun _ hk => hk.2) (.int .i64 t289)) (fun _ hk => hk.2) (.int .i64 t290)) (fun _ hk => ⟨hk.1.1, hk.1.2⟩)))⟩; have n2_ : Aside0 (Kd.R (Kd.int .u8) 5 w45 w.heap.size (fun k_ => some k_ ≠ (.slice Ao34 t268.length co34 : Value).ownBlock ∧ some k_ ≠ (.slice Ao39 y279.length co39 : Value).ownBlock) (.slice Ao44 t285.length co44) t285) := ⟨(by rw [hw]; exact (by (with_reducible repeat (first | apply Kd.R_alloc | apply Kd.R_drewN | apply Kd.R_drew)); exact Kd.R_mono (Kd.R_far (p := ⟨gb293, 6, none⟩) (Kd.R_far (p := ⟨gb293, 5, none⟩) (Kd.R_far (p := ⟨gb293, 4, none⟩) (Kd.R_far (p := ⟨gb293, 3, none⟩) (Kd.R_far (p := ⟨gb293, 2, none⟩) (Kd.R_far (p := ⟨gb293, 1, none⟩) (Kd.R_far (p := ⟨gb293, 0, none⟩) (Kd.R_types HO287.out BK293.out (by decide)) (fun _ hk => hk.2) (.int .i64 t282)) (fun _ hk => hk.2) (.int .i64 t283)) (fun _ hk => hk.2) (.int .i64 t284)) (fun _ hk => hk.2) (.slice Ao44 t285.length co44)) (fun _ hk => hk.2) (.int .i64 t288)) (fun _ hk => hk.2) (.int .i64 t289)) (fun _ hk => hk.2) (.int .i64 t290)) (fun _ hk => ⟨hk.1.1.2, hk.1.2⟩)))⟩; have n3_ : Aside0 (w45.heap[gb266]? = some (.cells #[.int .i64 a0_0, .int .i64 a0_1, .int .i64 a0_2, .slice A0_3 l0_3.length c0_3, .int .i64 a0_4, .int .i64 a0_5, .int .i64 a0_6] 38 (0, 0))) := ⟨(by rw [hw]; exact (by (with_reducible repeat (first | refine blk_drewN ?_ _ | refine blk_drew ?_ | refine blk_alloc ?_ _)); refine blk_far ?_ NB266_293.out _; refine blk_far ?_ NB266_293.out _; refine blk_far ?_ NB266_293.out _; refine blk_far ?_ NB266_293.out _; refine blk_far ?_ NB266_293.out _; refine blk_far ?_ NB266_293.out _; refine blk_far ?_ NB266_293.out _; (with_reducible repeat (first | refine blk_drewN ?_ _ | refine blk_drew ?_ | refine blk_alloc ?_ _)); exact BK266.out))⟩; have n4_ : Aside0 (w45.heap[gb293]? = some (.cells #[.int .i64 t282, .int .i64 t283, .int .i64 t284, .slice Ao44 t285.length co44, .int .i64 t288, .int .i64 t289, .int .i64 t290] 38 (0, 0))) := ⟨(by rw [hw]; exact (by (with_reducible repeat (first | refine blk_drewN ?_ _ | refine blk_drew ?_ | refine blk_alloc ?_ _)); refine blk_put (cs := #[.int .i64 t282, .int .i64 t283, .int .i64 t284, .slice Ao44 t285.length co44, .int .i64 t288, .int .i64 t289, .int .i64 0]) ?_ 6 _ rfl; refine blk_put (cs := #[.int .i64 t282, .int .i64 t283, .int .i64 t284, .slice Ao44 t285.length co44, .int .i64 t288, .int .i64 0, .int .i64 0]) ?_ 5 _ rfl; refine blk_put (cs := #[.int .i64 t282, .int .i64 t283, .int .i64 t284, .slice Ao44 t285.length co44, .int .i64 0, .int .i64 0, .int .i64 0]) ?_ 4 _ rfl; refine blk_put (cs := #[.int .i64 t282, .int .i64 t283, .int .i64 t284, .slice none 0 0, .int .i64 0, .int .i64 0, .int .i64 0]) ?_ 3 _ rfl; refine blk_put (cs := #[.int .i64 t282, .int .i64 t283, .int .i64 0, .slice none 0 0, .int .i64 0, .int .i64 0, .int .i64 0]) ?_ 2 _ rfl; refine blk_put (cs := #[.int .i64 t282, .int .i64 0, .int .i64 0, .slice none 0 0, .int .i64 0, .int .i64 0, .int .i64 0]) ?_ 1 _ rfl; refine blk_put (cs := #[.int .i64 0, .int .i64 0, .int .i64 0, .slice none 0 0, .int .i64 0, .int .i64 0, .int .i64 0]) ?_ 0 _ rfl; (with_reducible repeat (first | refine blk_drewN ?_ _ | refine blk_drew ?_ | refine blk_alloc ?_ _)); exact BK293.out))⟩; have n5_ : Aside0 (Below w.heap.size w w45) := ⟨(by rw [hw]; exact (by repeat (first | (with_reducible first | exact HB.out | apply below_alloc | apply pw_below_drewN | apply below_drew1 | refine below_set ?_ GE266.out | refine below_set ?_ GE293.out) | exact HB.out)))⟩; clear hw; clear HO270; clear HO281; clear HO287; clear BK266; clear BK293; clear HB; have HO270 := n0_; have HO281 := n1_; have HO287 := n2_; have BK266 := n3_; have BK293 := n4_; have HB := n5_; clear n0_ n1_ n2_ n3_ n4_ n5_; have q46 : ((ji22) : Int) ≤ ((t268.length : Int) : Int) := of_decide_eq_true (by first | (with_reducible assumption) | assumption); obtain ⟨i046, hi046, _, hsz46, _⟩ := info_parts info5; have hroom46 : t268.length ≤ co34 := (Kd.R_reads' HO270.out).2.1; have hC46 : Kd.C (Kd.int .u8) _ Ao34 t268.length t268 := (Kd.R_reads' HO270.out).2.2; have hcut46 := cut_to (P := Try.prog) 27 5 .i64 Try.underlying27 hi046 Ao34 t268.length co34 (ji22) (of_decide_eq_true (by first | (with_reducible assumption) | assumption)) q46 hroom46; have hr46 := Kd.C_take (m := ((ji22) : Int).toNat) hC46 (by omega); have hy46 : y294.length = ((ji22) : Int).toNat := (by rw [Ny294.out, List.length_take]; omega); rw [← Ny294.out] at hr46; rw [← hy46] at hcut46; have HR297 := Aside0.mk hr46; have HC297 := Aside0.mk (show y294.length ≤ co34 from by omega); clear hr46 hC46 hroom46 hi046 hsz46; have KY46 := Aside0.mk hy46; clear hy46; have KL46 := Aside0.mk (show ((ji22) : Int).toNat ≤ t268.length from by omega); replace q46 := eq_true q46) | ((with_reducible refine gate_callee (f := 21) rfl ?_); refine Cz.gL (N := (some 67)) Try.func21 #[.slice Ao34 y294.length co34] ?_; (with_reducible refine (frame_Read.calls _ _ y294 t298 t299 t300 t301 t304 t305 t306 t307 t308 _ ?side1 ?side2 A25.out).mono ?_); (case side1 => repeat (first | exact (by repeat (first | (with_reducible exact HR297.out) | (with_reducible refine Kd.C_alloc ?_ _) | (with_reducible refine Kd.C_drewN ?_ _) | (with_reducible refine Kd.C_drew ?_) | exact HR297.out)) | (with_reducible refine Kd.C_alloc ?_ _) | (with_reducible refine Kd.C_drewN ?_ _) | (with_reducible refine Kd.C_drew ?_))); (case side2 => exact HC297.out); rintro e w47 ⟨v302, rfl, ho0, hb⟩; refine ⟨_, rfl, ?_⟩; have n0_ := Aside0.mk (Kd.R_elder' (by (with_reducible repeat (first | apply Kd.R_alloc | apply Kd.R_drewN | apply Kd.R_drew)); exact HO270.out) (Kd.R_base ho0) hb); have n1_ := Aside0.mk (Kd.R_elder' (by (with_reducible repeat (first | apply Kd.R_alloc | apply Kd.R_drewN | apply Kd.R_drew)); exact HO281.out) (Kd.R_base ho0) hb); have n2_ := Aside0.mk (Kd.R_elder' (by (with_reducible repeat (first | apply Kd.R_alloc | apply Kd.R_drewN | apply Kd.R_drew)); exact HO287.out) (Kd.R_base ho0) hb); have n3_ := Aside0.mk (Kd.R_lower (Kd.R_new' (Kd.R_new' (Kd.R_new' ho0 (Kd.R_lt (by (with_reducible repeat (first | apply Kd.R_alloc | apply Kd.R_drewN | apply Kd.R_drew)); exact HO270.out))) (Kd.R_lt (by (with_reducible repeat (first | apply Kd.R_alloc | apply Kd.R_drewN | apply Kd.R_drew)); exact HO281.out))) (Kd.R_lt (by (with_reducible repeat (first | apply Kd.R_alloc | apply Kd.R_drewN | apply Kd.R_drew)); exact HO287.out))) (below_size (by repeat (first | (with_reducible first | exact HB.out | apply below_alloc | apply pw_below_drewN | apply below_drew1 | refine below_set ?_ GE266.out | refine below_set ?_ GE293.out) | exact HB.out)))); have n4_ := Cz.bk BK266 hb; have n5_ := Cz.bk BK293 hb; have n6_ := Aside0.mk (Kd.C_below (by repeat (first | (with_reducible exact HR297.out) | (with_reducible refine Kd.C_alloc ?_ _) | (with_reducible refine Kd.C_drewN ?_ _) | (with_reducible refine Kd.C_drew ?_) | exact HR297.out)) hb); have n7_ := Cz.bs (w := w) hb; clear HO270; clear HO281; clear HO287; clear BK266; clear BK293; clear HR297; clear HB; have HO270 := n0_; have HO281 := n1_; have HO287 := n2_; have HO303 := n3_; have BK266 := n4_; have BK293 := n5_; have HR297 := n6_; have HB := n7_; clear n0_ n1_ n2_ n3_ n4_ n5_ n6_ n7_; (try clear hb); (try clear hb2); (try clear hk); (try clear hi); (try clear ho0)) | ((with_reducible refine gate_dst (N := 13) rfl ?_); (try (refine gate_guard (by rfl) ?_; dsimp only)); refine box_event ?hg (N := 13) ?hd (cs := #[.int .i64 0, .int .i64 0, .int .i64 0, .slice none 0 0, .int .i64 0, .int .i64 0, .int .i64 0]) (t := 38) ?hr ?_; (case hd => rfl); (case hg => rfl); (case hr => first | (go_simp; done) | (go_simp; rfl)); intro gb309 hg w48 hbox hb; have n0_ := Cz.rb HO270 hb; have n1_ := Cz.rb HO281 hb; have n2_ := Cz.rb HO287 hb; have n3_ := Cz.rb HO303 hb; have n4_ := Cz.bk BK266 hb; have n5_ := Cz.bk BK293 hb; have n6_ := Aside0.mk (Kd.C_below (by repeat (first | (with_reducible exact HR297.out) | (with_reducible refine Kd.C_alloc ?_ _) | (with_reducible refine Kd.C_drewN ?_ _) | (with_reducible refine Kd.C_drew ?_) | exact HR297.out)) hb); have n7_ := Cz.bs (w := w) hb; have n8_ := Aside0.mk (hbox); have n9_ := Aside0.mk ((Cz.gs hg : w.heap.size ≤ gb309)); have n10_ := Aside0.mk ((Cz.gs hg : w.heap.size ≤ gb309)); have n11_ := Aside0.mk ((Cz.nl BK266 hg : gb266 ≠ gb309)); have n12_ := Aside0.mk ((Cz.nr BK266 hg : gb309 ≠ gb266)); have n13_ := Aside0.mk ((Cz.nl BK293 hg : gb293 ≠ gb309)); have n14_ := Aside0.mk ((Cz.nr BK293 hg : gb309 ≠ gb293)); clear HO270; clear HO281; clear HO287; clear HO303; clear BK266; clear BK293; clear HR297; clear HB; have HO270 := n0_; have HO281 := n1_; have HO287 := n2_; have HO303 := n3_; have BK266 := n4_; have BK293 := n5_; have HR297 := n6_; have HB := n7_; have BK309 := n8_; have GW309 := n9_; have GE309 := n10_; have NB266_309 := n11_; have NB309_266 := n12_; have NB293_309 := n13_; have NB309_293 := n14_; clear n0_ n1_ n2_ n3_ n4_ n5_ n6_ n7_ n8_ n9_ n10_ n11_ n12_ n13_ n14_; clear hb hbox hg; have hnb49 := NB309_266.out; have hnc49 := NB266_309.out; have hnb50 := NB309_293.out; have hnc50 := NB293_309.out; obtain ⟨hcz51_0, hcz51_1, hcz51_2, hcz51_3, hcz51_4, hcz51_5, hcz51_6, hfz51_0, hfz51_1, hfz51_2, hfz51_3, hfz51_4, hfz51_5, hfz51_6⟩ := Cz.d7 BK309; obtain ⟨Ao52, co52, eo52⟩ := Kd.R_slice HO303.out; subst eo52; obtain ⟨hcz53_0, hcz53_1, hcz53_2, hcz53_3, hcz53_4, hcz53_5, hcz53_6, hfz53_0, hfz53_1, hfz53_2, hfz53_3, hfz53_4, hfz53_5, hfz53_6⟩ := Cz.d7 BK266; obtain ⟨hcz54_0, hcz54_1, hcz54_2, hcz54_3, hcz54_4, hcz54_5, hcz54_6, hfz54_0, hfz54_1, hfz54_2, hfz54_3, hfz54_4, hfz54_5, hfz54_6⟩ := Cz.d7 BK293) | ((with_reducible refine gate_callee (f := 23) rfl ?_); refine Cz.gL (N := (some 73)) Try.func23 #[.agg #[.int .i64 a0_0, .int .i64 a0_1, .int .i64 a0_2, .slice A0_3 l0_3.length c0_3, .int .i64 a0_4, .int .i64 a0_5, .int .i64 a0_6], .agg #[.int .i64 t282, .int .i64 t283, .int .i64 t284, .slice Ao44 t285.length co44, .int .i64 t288, .int .i64 t289, .int .i64 t290]] ?_; (with_reducible refine (waggonerref16_Same.calls a0_0 a0_1 a0_2 _ _ l0_3 a0_4 a0_5 a0_6 t282 t283 t284 _ _ t285 t288 t289 t290 true _ ?side1 ?side2 ?side3 ?side4 A26.out).mono ?_); (case side1 => exact Kd.C_below HR0_3.out (by repeat (first | (with_reducible first | exact HB.out | apply below_alloc | apply pw_below_drewN | apply below_drew1 | refine below_set ?_ GE266.out | refine below_set ?_ GE293.out | refine below_set ?_ GE309.out) | exact HB.out))); (case side2 => exact HC0_3.out); (case side3 => refine (Kd.R_reads' (e := 5) (base := w.heap.size) (ok := fun k_ => ((some k_ ≠ (.slice Ao34 t268.length co34 : Value).ownBlock ∧ some k_ ≠ (.slice Ao39 y279.length co39 : Value).ownBlock) ∧ some k_ ≠ (.slice Ao52 t301.length co52 : Value).ownBlock)) (n := t285.length) (c := co44) ?_).2.2; exact (by (with_reducible repeat (first | apply Kd.R_alloc | apply Kd.R_drewN | apply Kd.R_drew)); exact (Kd.R_mono (Kd.R_far (p := ⟨gb309, 6, none⟩) (Kd.R_far (p := ⟨gb309, 5, none⟩) (Kd.R_far (p := ⟨gb309, 4, none⟩) (Kd.R_far (p := ⟨gb309, 3, none⟩) (Kd.R_far (p := ⟨gb309, 2, none⟩) (Kd.R_far (p := ⟨gb309, 1, none⟩) (Kd.R_far (p := ⟨gb309, 0, none⟩) (Kd.R_types HO287.out BK309.out (by decide)) (fun _ hk => hk.2) (.int .i64 t298)) (fun _ hk => hk.2) (.int .i64 t299)) (fun _ hk => hk.2) (.int .i64 t300)) (fun _ hk => hk.2) (.slice Ao52 t301.length co52)) (fun _ hk => hk.2) (.int .i64 t304)) (fun _ hk => hk.2) (.int .i64 t305)) (fun _ hk => hk.2) (.int .i64 t306)) (fun _ h_ => h_.1)))); (case side4 => exact (Kd.R_reads' HO287.out).2.1); rintro e w55 ⟨rfl, hb⟩; refine ⟨_, rfl, ?_⟩; have n0_ := Aside0.mk (Kd.R_below (by (with_reducible repeat (first | apply Kd.R_alloc | apply Kd.R_drewN | apply Kd.R_drew)); exact (Kd.R_mono (Kd.R_far (p := ⟨gb309, 6, none⟩) (Kd.R_far (p := ⟨gb309, 5, none⟩) (Kd.R_far (p := ⟨gb309, 4, none⟩) (Kd.R_far (p := ⟨gb309, 3, none⟩) (Kd.R_far (p := ⟨gb309, 2, none⟩) (Kd.R_far (p := ⟨gb309, 1, none⟩) (Kd.R_far (p := ⟨gb309, 0, none⟩) (Kd.R_types HO270.out BK309.out (by decide)) (fun _ hk => hk.2) (.int .i64 t298)) (fun _ hk => hk.2) (.int .i64 t299)) (fun _ hk => hk.2) (.int .i64 t300)) (fun _ hk => hk.2) (.slice Ao52 t301.length co52)) (fun _ hk => hk.2) (.int .i64 t304)) (fun _ hk => hk.2) (.int .i64 t305)) (fun _ hk => hk.2) (.int .i64 t306)) (fun _ h_ => h_.1))) hb); have n1_ := Aside0.mk (Kd.R_below (by (with_reducible repeat (first | apply Kd.R_alloc | apply Kd.R_drewN | apply Kd.R_drew)); exact (Kd.R_mono (Kd.R_far (p := ⟨gb309, 6, none⟩) (Kd.R_far (p := ⟨gb309, 5, none⟩) (Kd.R_far (p := ⟨gb309, 4, none⟩) (Kd.R_far (p := ⟨gb309, 3, none⟩) (Kd.R_far (p := ⟨gb309, 2, none⟩) (Kd.R_far (p := ⟨gb309, 1, none⟩) (Kd.R_far (p := ⟨gb309, 0, none⟩) (Kd.R_types HO281.out BK309.out (by decide)) (fun _ hk => hk.2) (.int .i64 t298)) (fun _ hk => hk.2) (.int .i64 t299)) (fun _ hk => hk.2) (.int .i64 t300)) (fun _ hk => hk.2) (.slice Ao52 t301.length co52)) (fun _ hk => hk.2) (.int .i64 t304)) (fun _ hk => hk.2) (.int .i64 t305)) (fun _ hk => hk.2) (.int .i64 t306)) (fun _ h_ => h_.1))) hb); have n2_ := Aside0.mk (Kd.R_below (by (with_reducible repeat (first | apply Kd.R_alloc | apply Kd.R_drewN | apply Kd.R_drew)); exact (Kd.R_mono (Kd.R_far (p := ⟨gb309, 6, none⟩) (Kd.R_far (p := ⟨gb309, 5, none⟩) (Kd.R_far (p := ⟨gb309, 4, none⟩) (Kd.R_far (p := ⟨gb309, 3, none⟩) (Kd.R_far (p := ⟨gb309, 2, none⟩) (Kd.R_far (p := ⟨gb309, 1, none⟩) (Kd.R_far (p := ⟨gb309, 0, none⟩) (Kd.R_types HO287.out BK309.out (by decide)) (fun _ hk => hk.2) (.int .i64 t298)) (fun _ hk => hk.2) (.int .i64 t299)) (fun _ hk => hk.2) (.int .i64 t300)) (fun _ hk => hk.2) (.slice Ao52 t301.length co52)) (fun _ hk => hk.2) (.int .i64 t304)) (fun _ hk => hk.2) (.int .i64 t305)) (fun _ hk => hk.2) (.int .i64 t306)) (fun _ h_ => h_.1))) hb); have n3_ := Aside0.mk (Kd.R_below (by (with_reducible repeat (first | apply Kd.R_alloc | apply Kd.R_drewN | apply Kd.R_drew)); exact (Kd.R_mono (Kd.R_far (p := ⟨gb309, 6, none⟩) (Kd.R_far (p := ⟨gb309, 5, none⟩) (Kd.R_far (p := ⟨gb309, 4, none⟩) (Kd.R_far (p := ⟨gb309, 3, none⟩) (Kd.R_far (p := ⟨gb309, 2, none⟩) (Kd.R_far (p := ⟨gb309, 1, none⟩) (Kd.R_far (p := ⟨gb309, 0, none⟩) (Kd.R_types HO303.out BK309.out (by decide)) (fun _ hk => hk.2) (.int .i64 t298)) (fun _ hk => hk.2) (.int .i64 t299)) (fun _ hk => hk.2) (.int .i64 t300)) (fun _ hk => hk.2) (.slice Ao52 t301.length co52)) (fun _ hk => hk.2) (.int .i64 t304)) (fun _ hk => hk.2) (.int .i64 t305)) (fun _ hk => hk.2) (.int .i64 t306)) (fun _ h_ => h_.1))) hb); have n4_ := Aside0.mk (blk_below (g := gb266) (o := .cells #[.int .i64 a0_0, .int .i64 a0_1, .int .i64 a0_2, .slice A0_3 l0_3.length c0_3, .int .i64 a0_4, .int .i64 a0_5, .int .i64 a0_6] 38 (0, 0)) (by (with_reducible repeat (first | refine blk_drewN ?_ _ | refine blk_drew ?_ | refine blk_alloc ?_ _)); refine blk_far ?_ NB266_309.out _; refine blk_far ?_ NB266_309.out _; refine blk_far ?_ NB266_309.out _; refine blk_far ?_ NB266_309.out _; refine blk_far ?_ NB266_309.out _; refine blk_far ?_ NB266_309.out _; refine blk_far ?_ NB266_309.out _; (with_reducible repeat (first | refine blk_drewN ?_ _ | refine blk_drew ?_ | refine blk_alloc ?_ _)); exact BK266.out) hb); have n5_ := Aside0.mk (blk_below (g := gb293) (o := .cells #[.int .i64 t282, .int .i64 t283, .int .i64 t284, .slice Ao44 t285.length co44, .int .i64 t288, .int .i64 t289, .int .i64 t290] 38 (0, 0)) (by (with_reducible repeat (first | refine blk_drewN ?_ _ | refine blk_drew ?_ | refine blk_alloc ?_ _)); refine blk_far ?_ NB293_309.out _; refine blk_far ?_ NB293_309.out _; refine blk_far ?_ NB293_309.out _; refine blk_far ?_ NB293_309.out _; refine blk_far ?_ NB293_309.out _; refine blk_far ?_ NB293_309.out _; refine blk_far ?_ NB293_309.out _; (with_reducible repeat (first | refine blk_drewN ?_ _ | refine blk_drew ?_ | refine blk_alloc ?_ _)); exact BK293.out) hb); have n6_ := Aside0.mk (blk_below (g := gb309) (o := .cells #[.int .i64 t298, .int .i64 t299, .int .i64 t300, .slice Ao52 t301.length co52, .int .i64 t304, .int .i64 t305, .int .i64 t306] 38 (0, 0)) (by (with_reducible repeat (first | refine blk_drewN ?_ _ | refine blk_drew ?_ | refine blk_alloc ?_ _)); refine blk_put (cs := #[.int .i64 t298, .int .i64 t299, .int .i64 t300, .slice Ao52 t301.length co52, .int .i64 t304, .int .i64 t305, .int .i64 0]) ?_ 6 _ rfl; refine blk_put (cs := #[.int .i64 t298, .int .i64 t299, .int .i64 t300, .slice Ao52 t301.length co52, .int .i64 t304, .int .i64 0, .int .i64 0]) ?_ 5 _ rfl; refine blk_put (cs := #[.int .i64 t298, .int .i64 t299, .int .i64 t300, .slice Ao52 t301.length co52, .int .i64 0, .int .i64 0, .int .i64 0]) ?_ 4 _ rfl; refine blk_put (cs := #[.int .i64 t298, .int .i64 t299, .int .i64 t300, .slice none 0 0, .int .i64 0, .int .i64 0, .int .i64 0]) ?_ 3 _ rfl; refine blk_put (cs := #[.int .i64 t298, .int .i64 t299, .int .i64 0, .slice none 0 0, .int .i64 0, .int .i64 0, .int .i64 0]) ?_ 2 _ rfl; refine blk_put (cs := #[.int .i64 t298, .int .i64 0, .int .i64 0, .slice none 0 0, .int .i64 0, .int .i64 0, .int .i64 0]) ?_ 1 _ rfl; refine blk_put (cs := #[.int .i64 0, .int .i64 0, .int .i64 0, .slice none 0 0, .int .i64 0, .int .i64 0, .int .i64 0]) ?_ 0 _ rfl; (with_reducible repeat (first | refine blk_drewN ?_ _ | refine blk_drew ?_ | refine blk_alloc ?_ _)); exact BK309.out) hb); have n7_ := Cz.bs (w := w) hb; clear HO270; clear HO281; clear HO287; clear HO303; clear BK266; clear BK293; clear BK309; clear HB; have HO270 := n0_; have HO281 := n1_; have HO287 := n2_; have HO303 := n3_; have BK266 := n4_; have BK293 := n5_; have BK309 := n6_; have HB := n7_; clear n0_ n1_ n2_ n3_ n4_ n5_ n6_ n7_; (try clear hb); (try clear hb2); (try clear hk); (try clear hi)))
                go_ret
                exact ⟨by first | rfl | (exact congrArg (fun z_ => Ending.returned (Value.bool z_)) HRT.out) | (rw [HRT.out]; done) | (simp [errW_none, errW_some] <;> rfl) | (simp only [← hji22]; first | rfl | (simp [errW_none, errW_some] <;> rfl)) | (simp [*, errW_none, errW_some] <;> rfl), by repeat (first | (with_reducible first | exact HB.out | apply below_alloc | apply pw_below_drewN | apply below_drew1 | refine below_set ?_ GE266.out | refine below_set ?_ GE293.out | refine below_set ?_ GE309.out) | exact HB.out)⟩
               ·rw [if_neg c31] at H
                first | exact absurd H (by simp; done) | skip
              ·rw [if_neg c30] at H
               first | exact absurd H (by simp; done) | skip
             ·rw [if_neg c29] at H
              first | exact absurd H (by simp; done) | skip
            ·replace c28 := Bool.eq_false_iff.mpr c28
             subst c28
             have H1 : (some false) = some true := by rw [if_neg (show ¬ (false = true) by decide)] at H <;> exact H
             exact absurd H1 (by simp)
           ·replace c27 := Bool.eq_false_iff.mpr c27
            subst c27
            have H1 : (some false) = some true := by rw [if_neg (show ¬ (false = true) by decide)] at H <;> exact H
            exact absurd H1 (by simp)
          ·rw [if_neg c24] at H
           exact absurd H (by simp)
         ·rw [if_neg c23] at H
          exact absurd H (by simp)
       ·rw [if_neg c19] at H
        exact absurd H (by simp)
      ·rw [if_neg c18] at H
       exact absurd H (by simp)
    ·rw [if_neg c13] at H
     have c13b0 : (t271 == 0) = false := beq_eq_false_iff_ne.mpr c13
     have c13b1 : (t271 != 0) = true := bne_iff_ne.mpr c13
     by_cases c176 : t267 = true
     ·subst c176
      rw [if_pos rfl] at H
      by_cases c177 : (t268.length : Int) = 0
      ·rw [if_pos c177] at H
       have c177b0 : ((t268.length : Int) == 0) = true := beq_iff_eq.mpr c177
       have c177b1 : ((t268.length : Int) != 0) = false := bne_eq_false_iff_eq.mpr c177
       clear c177
       replace H := Option.bind_eq_some_iff.mp H
       obtain ⟨t272, A1780, H⟩ := H
       (try dsimp only at H)
       have A178 := Aside0.mk A1780
       clear A1780
       (have HRT := Aside0.mk (Option.some.inj H); clear H)
       obtain ⟨hcz179_0, hcz179_1, hcz179_2, hcz179_3, hcz179_4, hcz179_5, hcz179_6, hfz179_0, hfz179_1, hfz179_2, hfz179_3, hfz179_4, hfz179_5, hfz179_6⟩ := Cz.d7 BK266
       go_wp2_with (first | ((with_reducible refine gate_callee (f := 19) rfl ?_); refine Cz.gL (N := (some 30)) Try.func19 #[.agg #[.int .i64 a0_0, .int .i64 a0_1, .int .i64 a0_2, .slice A0_3 l0_3.length c0_3, .int .i64 a0_4, .int .i64 a0_5, .int .i64 a0_6]] ?_; (with_reducible refine (frame_Write.calls a0_0 a0_1 a0_2 _ _ l0_3 a0_4 a0_5 a0_6 t268 t271 _ ?side1 ?side2 A12.out).mono ?_); (case side1 => exact Cz.cb HR0_3); (case side2 => exact HC0_3.out); rintro e w180 ⟨v269, rfl, ho0, hb⟩; refine ⟨_, rfl, ?_⟩; have n0_ := Aside0.mk (Kd.R_lower ho0 (below_size (by repeat (first | (with_reducible first | exact HB.out | apply below_alloc | apply pw_below_drewN | apply below_drew1 | refine below_set ?_ GE266.out) | exact HB.out)))); have n1_ := Cz.bk BK266 hb; have n2_ := Cz.bs (w := w) hb; clear BK266; clear HB; have HO270 := n0_; have BK266 := n1_; have HB := n2_; clear n0_ n1_ n2_; (try clear hb); (try clear hb2); (try clear hk); (try clear hi); (try clear ho0); obtain ⟨Ao181, co181, eo181⟩ := Kd.R_slice HO270.out; subst eo181; obtain ⟨hcz182_0, hcz182_1, hcz182_2, hcz182_3, hcz182_4, hcz182_5, hcz182_6, hfz182_0, hfz182_1, hfz182_2, hfz182_3, hfz182_4, hfz182_5, hfz182_6⟩ := Cz.d7 BK266) | (go_at_call 24; (with_reducible refine (frame_Check.calls a0_0 a0_1 a0_2 _ _ l0_3 a0_4 a0_5 a0_6 t272 _ ?side1 ?side2 A178.out).mono ?_); (case side1 => exact Cz.cb HR0_3); (case side2 => exact HC0_3.out); rintro e w183 ⟨rfl, hb⟩; have n0_ := Cz.rb HO270 hb; have n1_ := Cz.bk BK266 hb; have n2_ := Cz.bs (w := w) hb; clear HO270; clear BK266; clear HB; have HO270 := n0_; have BK266 := n1_; have HB := n2_; clear n0_ n1_ n2_; (try clear hb); (try clear hb2); (try clear hk); (try clear hi)))
       go_ret
       exact ⟨by first | rfl | (exact congrArg (fun z_ => Ending.returned (Value.bool z_)) HRT.out) | (rw [HRT.out]; done) | (simp [errW_none, errW_some] <;> rfl) | (simp [*, errW_none, errW_some] <;> rfl), by repeat (first | (with_reducible first | exact HB.out | apply below_alloc | apply pw_below_drewN | apply below_drew1 | refine below_set ?_ GE266.out) | exact HB.out)⟩
      ·rw [if_neg c177] at H
       first | exact absurd H (by simp; done) | skip
     ·replace c176 := Bool.eq_false_iff.mpr c176
      subst c176
      have H1 : (some false) = some true := by rw [if_neg (show ¬ (false = true) by decide)] at H <;> exact H
      exact absurd H1 (by simp)
end Go.Proofs.Ytohkmmbmfhficaa.PB
