/- Functions of the program as Lean functions, and that the Go code comes to just their answers: no condition but that the function says so. (Written by a program of this workplace over the kit's print, with contracts by hand.) -/
import Derived.Test.YtcemlfkboifncaaCz
import Derived.Test.YtcemlfkboifncaaPLx14
import Derived.Test.YtcemlfkboifncaaPLx19
import Derived.Test.YtcemlfkboifncaaPLx21
import Derived.Test.YtcemlfkboifncaaPLx26
import Derived.Test.YtcemlfkboifncaaPLx35
namespace Go.Proofs.Ytcemlfkboifncaa.PL
open Go.Proofs.Ytcemlfkboifncaa Go.RowKit Go.Proofs.YtcemlfkboifncaaW.PrintWords Go.Proofs.YtcemlfkboifncaaW.PrintLast Go.Proofs.YtcemlfkboifncaaW.PrintMore
attribute [local go_sem] max2_int min2_int max_two min_two max_three min_three max_four min_four   -- for this text's walks alone
set_option linter.unusedVariables false
set_option linter.unusedSimpArgs false

/-! ### waggonerlaw07_ExtentPlain: function 17 -/
mutual
def waggonerlaw07_ExtentPlain.j0 : Nat → Bool → Bool → Int → Int → Int → Int → List Int → Int → Int → Int → Int → List Int → Option (Bool)
 | 0, _, _, _, _, _, _, _, _, _, _, _, _ => none
 | k + 1, x5, x21, x235000, x235001, x235002, x235003, x235004, x236000, x236001, x236002, x236003, x236004 => if x21 = true then (some x5) else ((extent_Bytes.f x235000 x235001 x235002 x235003 x235004).bind fun t237 => (waggonerlaw07_ExtentPlain.l0 k x5 t237 0 x235000 x235001 x235002 x235003 x235004 x236000 x236001 x236002 x236003 x236004))
def waggonerlaw07_ExtentPlain.l0 : Nat → Bool → List Int → Int → Int → Int → Int → Int → List Int → Int → Int → Int → Int → List Int → Option (Bool)
 | 0, _, _, _, _, _, _, _, _, _, _, _, _, _ => none
 | k + 1, x5, x6, x7, x235000, x235001, x235002, x235003, x235004, x236000, x236001, x236002, x236003, x236004 => if x7 < (x6.length : Int) then (if x235002 = 2 then (waggonerlaw07_ExtentPlain.l0 k x5 x6 (wrap64 (x7 + 1)) x235000 x235001 x235002 x235003 x235004 x236000 x236001 x236002 x236003 x236004) else (if 0 ≤ x7 then (if (rd x6 x7) = 0 then (waggonerlaw07_ExtentPlain.l0 k x5 x6 (wrap64 (x7 + 1)) x235000 x235001 x235002 x235003 x235004 x236000 x236001 x236002 x236003 x236004) else (some false)) else (none))) else ((extent_Join.f x235000 x235001 x235002 x235003 x235004 x236000 x236001 x236002 x236003 x236004).bind fun bt241 => ((extent_Joins.f x235000 x235001 x235002 x235003 x235004 x236000 x236001 x236002 x236003 x236004).bind fun t250 => (if t250 = true then ((extent_Bytes.f x235000 x235001 x235002 x235003 x235004).bind fun t251 => ((extent_Bytes.f x236000 x236001 x236002 x236003 x236004).bind fun t254 => (if (strOfNums t251).size + (strOfNums t254).size ≤ 9223372036854775807 then (if x5 = true then (if bt241.2.2.2.2.2 = 0 then (if x235002 = x236002 then (if x235003 = x236003 then (if x236000 = (wrap64 (x235000 + x235001)) then (if bt241.1 = x235000 then (if bt241.2.1 = (wrap64 (x235001 + x236001)) then ((extent_Bytes.f bt241.1 bt241.2.1 bt241.2.2.1 bt241.2.2.2.1 bt241.2.2.2.2.1).bind fun t257 => (if (strOfNums t257).toList = ((strOfNums t251) ++ (strOfNums t254)).toList then ((extent_Joins.f x236000 x236001 x236002 x236003 x236004 x235000 x235001 x235002 x235003 x235004).bind fun t260 => (some (!t260))) else (some false))) else (some false)) else (some false)) else (some false)) else (some false)) else (some false)) else (some false)) else (some false)) else (none)))) else (if x5 = true then (some (bt241.2.2.2.2.2 == 70)) else (some false)))))
end
def waggonerlaw07_ExtentPlain.f (k : Nat) (a0_0 : Int) (a0_1 : Int) (a0_2 : Int) (a0_3 : Int) (l0_4 : List Int) (a1_0 : Int) (a1_1 : Int) (a1_2 : Int) (a1_3 : Int) (l1_4 : List Int) : Option (Bool) := (waggonerlaw07_awake.f).bind fun t236 => (if (l0_4.length : Int) > 3000 then (waggonerlaw07_ExtentPlain.j0 k t236 true a0_0 a0_1 a0_2 a0_3 l0_4 a1_0 a1_1 a1_2 a1_3 l1_4) else (waggonerlaw07_ExtentPlain.j0 k t236 (decide ((l1_4.length : Int) > 3000)) a0_0 a0_1 a0_2 a0_3 l0_4 a1_0 a1_1 a1_2 a1_3 l1_4))
theorem waggonerlaw07_ExtentPlain.mono_l : ∀ k, (∀ y0 y1 y2 y3 y4 y5 y6 y7 y8 y9 y10 y11, LeO (waggonerlaw07_ExtentPlain.j0 k y0 y1 y2 y3 y4 y5 y6 y7 y8 y9 y10 y11) (waggonerlaw07_ExtentPlain.j0 (k + 1) y0 y1 y2 y3 y4 y5 y6 y7 y8 y9 y10 y11)) ∧ (∀ y0 y1 y2 y3 y4 y5 y6 y7 y8 y9 y10 y11 y12, LeO (waggonerlaw07_ExtentPlain.l0 k y0 y1 y2 y3 y4 y5 y6 y7 y8 y9 y10 y11 y12) (waggonerlaw07_ExtentPlain.l0 (k + 1) y0 y1 y2 y3 y4 y5 y6 y7 y8 y9 y10 y11 y12))
 | 0 => ⟨fun _ _ _ _ _ _ _ _ _ _ _ _ r h => by simp [waggonerlaw07_ExtentPlain.j0] at h, fun _ _ _ _ _ _ _ _ _ _ _ _ _ r h => by simp [waggonerlaw07_ExtentPlain.l0] at h⟩
 | k + 1 => by
  obtain ⟨ih0, ih1⟩ := waggonerlaw07_ExtentPlain.mono_l k
  refine ⟨?_, ?_⟩
  ·intro y0 y1 y2 y3 y4 y5 y6 y7 y8 y9 y10 y11
   unfold waggonerlaw07_ExtentPlain.j0
   repeat' first
   | (with_reducible exact ih0 _ _ _ _ _ _ _ _ _ _ _ _)
   | (with_reducible exact ih1 _ _ _ _ _ _ _ _ _ _ _ _ _)
   | (with_reducible exact LeO.refl _)
   | (with_reducible exact LeO.none _)
   | (with_reducible refine LeO.ite ?_ ?_)
   | (with_reducible refine LeO.bind ?_ (fun _ => ?_))
   | exact ih0 _ _ _ _ _ _ _ _ _ _ _ _
   | exact ih1 _ _ _ _ _ _ _ _ _ _ _ _ _
   | exact LeO.none _
   | refine LeO.ite ?_ ?_
   | refine LeO.bind ?_ (fun _ => ?_)
  ·intro y0 y1 y2 y3 y4 y5 y6 y7 y8 y9 y10 y11 y12
   unfold waggonerlaw07_ExtentPlain.l0
   repeat' first
   | (with_reducible exact ih0 _ _ _ _ _ _ _ _ _ _ _ _)
   | (with_reducible exact ih1 _ _ _ _ _ _ _ _ _ _ _ _ _)
   | (with_reducible exact LeO.refl _)
   | (with_reducible exact LeO.none _)
   | (with_reducible refine LeO.ite ?_ ?_)
   | (with_reducible refine LeO.bind ?_ (fun _ => ?_))
   | exact ih0 _ _ _ _ _ _ _ _ _ _ _ _
   | exact ih1 _ _ _ _ _ _ _ _ _ _ _ _ _
   | exact LeO.none _
   | refine LeO.ite ?_ ?_
   | refine LeO.bind ?_ (fun _ => ?_)
theorem waggonerlaw07_ExtentPlain.mono : ∀ a0 a1 a2 a3 a4 a5 a6 a7 a8 a9 k, LeO (waggonerlaw07_ExtentPlain.f k a0 a1 a2 a3 a4 a5 a6 a7 a8 a9) (waggonerlaw07_ExtentPlain.f (k + 1) a0 a1 a2 a3 a4 a5 a6 a7 a8 a9) := by
 intro a0 a1 a2 a3 a4 a5 a6 a7 a8 a9 k
 obtain ⟨ih0, ih1⟩ := waggonerlaw07_ExtentPlain.mono_l k
 unfold waggonerlaw07_ExtentPlain.f
 repeat' first
   | (with_reducible exact ih0 _ _ _ _ _ _ _ _ _ _ _ _)
   | (with_reducible exact ih1 _ _ _ _ _ _ _ _ _ _ _ _ _)
   | (with_reducible exact LeO.refl _)
   | (with_reducible exact LeO.none _)
   | (with_reducible refine LeO.ite ?_ ?_)
   | (with_reducible refine LeO.bind ?_ (fun _ => ?_))
   | exact ih0 _ _ _ _ _ _ _ _ _ _ _ _
   | exact ih1 _ _ _ _ _ _ _ _ _ _ _ _ _
   | exact LeO.none _
   | refine LeO.ite ?_ ?_
   | refine LeO.bind ?_ (fun _ => ?_)
def waggonerlaw07_ExtentPlain.T13 : Bool × List (List Nat × List Nat) := (true, [([], []), ([0], [0]), ([1], [1]), ([], []), ([3, 1], [3]), ([4], [4]), ([2, 5], [2, 5]), ([6, 4, 0, 1, 2, 3, 4, 5, 6], [6])])
def waggonerlaw07_ExtentPlain.B13 : List Nat := [0, 1, 3, 0, 11, 27, 63, 127]
theorem waggonerlaw07_ExtentPlain.tab13 : rtab .any (opsOf Try.f17 13) = waggonerlaw07_ExtentPlain.T13 := by kernel_rfl
theorem waggonerlaw07_ExtentPlain.bits13 : waitsOk waggonerlaw07_ExtentPlain.T13.2 waggonerlaw07_ExtentPlain.B13 = true := by kernel_rfl
set_option maxHeartbeats 8000000 in
set_option maxRecDepth 100000 in
theorem waggonerlaw07_ExtentPlain.calls (k : Nat) (a0_0 : Int) (a0_1 : Int) (a0_2 : Int) (a0_3 : Int) (A0_4 : Option Addr) (c0_4 : Nat) (l0_4 : List Int) (a1_0 : Int) (a1_1 : Int) (a1_2 : Int) (a1_3 : Int) (A1_4 : Option Addr) (c1_4 : Nat) (l1_4 : List Int) (r : Bool) (hT : r = true) (w : World) (hr0_4 : Kd.C (Kd.int .u8) w A0_4 l0_4.length l0_4) (hc0_4 : l0_4.length ≤ c0_4) (hr1_4 : Kd.C (Kd.int .u8) w A1_4 l1_4.length l1_4) (hc1_4 : l1_4.length ≤ c1_4) (h : waggonerlaw07_ExtentPlain.f k a0_0 a0_1 a0_2 a0_3 l0_4 a1_0 a1_1 a1_2 a1_3 l1_4 = some r) :
  Calls Try.prog 17 #[.agg #[.int .i64 a0_0, .int .i64 a0_1, .int .i64 a0_2, .int .i64 a0_3, .slice A0_4 l0_4.length c0_4], .agg #[.int .i64 a1_0, .int .i64 a1_1, .int .i64 a1_2, .int .i64 a1_3, .slice A1_4 l1_4.length c1_4]] w fun e w' => e = .returned (.bool r) ∧ Below w.heap.size w w' := by
 subst hT
 have hu46 := Try.underlying46
 have HR0_4 := Aside0.mk hr0_4
 have HC0_4 := Aside0.mk hc0_4
 clear hr0_4 hc0_4
 have HR1_4 := Aside0.mk hr1_4
 have HC1_4 := Aside0.mk hc1_4
 clear hr1_4 hc1_4
 have HB := Aside0.mk (Below.refl w.heap.size w)
 have H : ((waggonerlaw07_awake.f).bind fun t236 => (if (l0_4.length : Int) > 3000 then (waggonerlaw07_ExtentPlain.j0 k t236 true a0_0 a0_1 a0_2 a0_3 l0_4 a1_0 a1_1 a1_2 a1_3 l1_4) else (waggonerlaw07_ExtentPlain.j0 k t236 (decide ((l1_4.length : Int) > 3000)) a0_0 a0_1 a0_2 a0_3 l0_4 a1_0 a1_1 a1_2 a1_3 l1_4))) = some true := h
 clear h
 replace H := Option.bind_eq_some_iff.mp H
 obtain ⟨t236, A30, H⟩ := H
 (try dsimp only at H)
 have A3 := Aside0.mk A30
 clear A30
 have HC4 := Aside0.mk H
 clear H
 go_enter Try.func17, Try.ntmps17
 go_upto_region 2 with (first | ((with_reducible refine gate_dst (N := 2) rfl ?_); (try (refine gate_guard (by rfl) ?_; dsimp only)); refine box_event ?hg (N := 2) ?hd (cs := #[.int .i64 a0_0, .int .i64 a0_1, .int .i64 a0_2, .int .i64 a0_3, .slice A0_4 l0_4.length c0_4]) (t := 46) ?hr ?_; (case hd => rfl); (case hg => rfl); (case hr => first | (go_simp; done) | (go_simp; rfl)); intro gb234 hg w5 hbox hb; have n0_ := Cz.bs (w := w) hb; have n1_ := Aside0.mk (hbox); have n2_ := Aside0.mk ((Cz.gs hg : w.heap.size ≤ gb234)); have n3_ := Aside0.mk ((Cz.gs hg : w.heap.size ≤ gb234)); clear HB; have HB := n0_; have BK234 := n1_; have GW234 := n2_; have GE234 := n3_; clear n0_ n1_ n2_ n3_; clear hb hbox hg) | ((with_reducible refine gate_dst (N := 3) rfl ?_); (try (refine gate_guard (by rfl) ?_; dsimp only)); refine box_event ?hg (N := 3) ?hd (cs := #[.int .i64 a1_0, .int .i64 a1_1, .int .i64 a1_2, .int .i64 a1_3, .slice A1_4 l1_4.length c1_4]) (t := 46) ?hr ?_; (case hd => rfl); (case hg => rfl); (case hr => first | (go_simp; done) | (go_simp; rfl)); intro gb235 hg w6 hbox hb; have n0_ := Cz.bk BK234 hb; have n1_ := Cz.bs (w := w) hb; have n2_ := Aside0.mk (hbox); have n3_ := Aside0.mk ((Cz.gs hg : w.heap.size ≤ gb235)); have n4_ := Aside0.mk ((Cz.gs hg : w.heap.size ≤ gb235)); have n5_ := Aside0.mk ((Cz.nl BK234 hg : gb234 ≠ gb235)); have n6_ := Aside0.mk ((Cz.nr BK234 hg : gb235 ≠ gb234)); clear BK234; clear HB; have BK234 := n0_; have HB := n1_; have BK235 := n2_; have GW235 := n3_; have GE235 := n4_; have NB234_235 := n5_; have NB235_234 := n6_; clear n0_ n1_ n2_ n3_ n4_ n5_ n6_; clear hb hbox hg) | ((with_reducible refine gate_callee (f := 32) rfl ?_); refine Cz.gL (N := (some 11)) Try.func32 #[] ?_; (with_reducible refine (waggonerlaw07_awake.calls  t236 _ A3.out).mono ?_); rintro e w7 ⟨rfl, hb⟩; refine ⟨_, rfl, ?_⟩; have n0_ := Cz.bk BK234 hb; have n1_ := Cz.bk BK235 hb; have n2_ := Cz.bs (w := w) hb; clear BK234; clear BK235; clear HB; have BK234 := n0_; have BK235 := n1_; have HB := n2_; clear n0_ n1_ n2_; (try clear hb); (try clear hb2); (try clear hk); (try clear hi)))
 (try simp only [Act.put, Kx.sb, Kx.sz, Kx.ss])
 go_cut [21] (fun v21 wc => ∃ (kq : Nat) (x21_3 : Bool), v21 = .bool x21_3 ∧ Aside0 (waggonerlaw07_ExtentPlain.j0 kq t236 x21_3 a0_0 a0_1 a0_2 a0_3 l0_4 a1_0 a1_1 a1_2 a1_3 l1_4 = some true) ∧ Aside0 (kq ≤ k) ∧ Aside0 (wc.heap[gb234]? = some (.cells #[.int .i64 a0_0, .int .i64 a0_1, .int .i64 a0_2, .int .i64 a0_3, (.slice A0_4 l0_4.length c0_4)] 46 (0, 0))) ∧ Aside0 (wc.heap[gb235]? = some (.cells #[.int .i64 a1_0, .int .i64 a1_1, .int .i64 a1_2, .int .i64 a1_3, (.slice A1_4 l1_4.length c1_4)] 46 (0, 0))) ∧ Aside0 (Below w.heap.size w wc))
 case first =>
  have H := HC4.out
  clear HC4
  by_cases c8 : (l0_4.length : Int) > 3000
  ·rw [if_pos c8] at H
   have c8b0 : decide (3000 < (l0_4.length : Int)) = true := decide_eq_true c8
   have c8b1 : decide (3000 < l0_4.length) = true := decide_eq_true (by omega)
   clear c8
   (first | rw [c8b0] | (simp only [i64_w, i32_w]; rw [c8b0]) | skip)
   have H' := Aside0.mk H
   clear H
   have hnb9 := NB234_235.out
   have hnc9 := NB235_234.out
   obtain ⟨hcz10_0, hcz10_1, hcz10_2, hcz10_3, hcz10_4, hfz10_0, hfz10_1, hfz10_2, hfz10_3, hfz10_4⟩ := Cz.d5 BK234
   go_wp2
   go_meet
   case rel => exact ⟨_, (true), (by first | rfl | (simp; done) | (simp [*]; done)), H', ⟨by first | omega | exact Nat.le_refl _⟩, ⟨by (with_reducible repeat (first | refine blk_drewN ?_ _ | refine blk_drew ?_ | refine blk_alloc ?_ _)); exact BK234.out⟩, ⟨by (with_reducible repeat (first | refine blk_drewN ?_ _ | refine blk_drew ?_ | refine blk_alloc ?_ _)); exact BK235.out⟩, ⟨by repeat (first | (with_reducible first | exact HB.out | apply below_alloc | apply pw_below_drewN | apply below_drew1 | refine below_set ?_ GE234.out | refine below_set ?_ GE235.out) | exact HB.out)⟩⟩
  ·rw [if_neg c8] at H
   have c8b0 : decide (3000 < (l0_4.length : Int)) = false := decide_eq_false c8
   have c8b1 : decide (3000 < l0_4.length) = false := decide_eq_false (by omega)
   clear c8
   (first | rw [c8b0] | (simp only [i64_w, i32_w]; rw [c8b0]) | skip)
   have H' := Aside0.mk H
   clear H
   have hnb11 := NB234_235.out
   have hnc11 := NB235_234.out
   obtain ⟨hcz12_0, hcz12_1, hcz12_2, hcz12_3, hcz12_4, hfz12_0, hfz12_1, hfz12_2, hfz12_3, hfz12_4⟩ := Cz.d5 BK234
   obtain ⟨hcz13_0, hcz13_1, hcz13_2, hcz13_3, hcz13_4, hfz13_0, hfz13_1, hfz13_2, hfz13_3, hfz13_4⟩ := Cz.d5 BK235
   go_wp2
   go_meet
   case rel => exact ⟨_, (decide ((l1_4.length : Int) > 3000)), (by first | rfl | (simp; done) | (simp [*]; done)), H', ⟨by first | omega | exact Nat.le_refl _⟩, ⟨by (with_reducible repeat (first | refine blk_drewN ?_ _ | refine blk_drew ?_ | refine blk_alloc ?_ _)); exact BK234.out⟩, ⟨by (with_reducible repeat (first | refine blk_drewN ?_ _ | refine blk_drew ?_ | refine blk_alloc ?_ _)); exact BK235.out⟩, ⟨by repeat (first | (with_reducible first | exact HB.out | apply below_alloc | apply pw_below_drewN | apply below_drew1 | refine below_set ?_ GE234.out | refine below_set ?_ GE235.out) | exact HB.out)⟩⟩
 case rest =>
  clear HC4
  try clear c1
  try clear p2
  try clear c3
  try clear c8
  try clear c8b0
  try clear c8b1
  try clear c9
  try clear c11
  try clear hcz10_0
  try clear hcz10_1
  try clear hcz10_2
  try clear hcz10_3
  try clear hcz10_4
  try clear hcz12_0
  try clear hcz12_1
  try clear hcz12_2
  try clear hcz12_3
  try clear hcz12_4
  try clear hcz13_0
  try clear hcz13_1
  try clear hcz13_2
  try clear hcz13_3
  try clear hcz13_4
  try clear hfz10_0
  try clear hfz10_1
  try clear hfz10_2
  try clear hfz10_3
  try clear hfz10_4
  try clear hfz12_0
  try clear hfz12_1
  try clear hfz12_2
  try clear hfz12_3
  try clear hfz12_4
  try clear hfz13_0
  try clear hfz13_1
  try clear hfz13_2
  try clear hfz13_3
  try clear hfz13_4
  obtain ⟨kq, x21_3, rfl, HA, HJ3, BK234, BK235, HB⟩ := hcut
  cases kq with
  | zero => exact absurd HA.out (by simp [waggonerlaw07_ExtentPlain.j0])
  | succ kj3 =>
   have H := HA.out
   clear HA
   simp only [waggonerlaw07_ExtentPlain.j0] at H
   by_cases c14 : x21_3 = true
   ·subst c14
    rw [if_pos rfl] at H
    (have HRT := Aside0.mk (Option.some.inj H); clear H)
    go_wp2
    go_ret
    exact ⟨by first | rfl | (exact congrArg (fun z_ => Ending.returned (Value.bool z_)) HRT.out) | (rw [HRT.out]; done) | (simp [errW_none, errW_some] <;> rfl) | (simp [*, errW_none, errW_some] <;> rfl), by repeat (first | (with_reducible first | exact HB.out | apply below_alloc | apply pw_below_drewN | apply below_drew1 | refine below_set ?_ GE234.out | refine below_set ?_ GE235.out) | exact HB.out)⟩
   ·replace c14 := Bool.eq_false_iff.mpr c14
    subst c14
    rw [if_neg (show ¬ (false = true) by decide)] at H
    replace H := Option.bind_eq_some_iff.mp H
    obtain ⟨t237, A150, H⟩ := H
    (try dsimp only at H)
    have A15 := Aside0.mk A150
    clear A150
    have H' := Aside0.mk H
    clear H
    have hnb16 := NB234_235.out
    have hnc16 := NB235_234.out
    obtain ⟨hcz17_0, hcz17_1, hcz17_2, hcz17_3, hcz17_4, hfz17_0, hfz17_1, hfz17_2, hfz17_3, hfz17_4⟩ := Cz.d5 BK234
    go_wp2_with (first | ((with_reducible refine gate_callee (f := 40) rfl ?_); refine Cz.gL (N := (some 24)) Try.func40 #[.agg #[.int .i64 a0_0, .int .i64 a0_1, .int .i64 a0_2, .int .i64 a0_3, .slice A0_4 l0_4.length c0_4]] ?_; (with_reducible refine (extent_Bytes.calls a0_0 a0_1 a0_2 a0_3 _ _ l0_4 t237 _ ?side1 ?side2 A15.out).mono ?_); (case side1 => exact Cz.cb HR0_4); (case side2 => exact HC0_4.out); rintro e w18 ⟨v238, rfl, ho0, hb⟩; refine ⟨_, rfl, ?_⟩; have n0_ := Aside0.mk (Kd.R_lower ho0 (below_size (by repeat (first | (with_reducible first | exact HB.out | apply below_alloc | apply pw_below_drewN | apply below_drew1 | refine below_set ?_ GE234.out | refine below_set ?_ GE235.out) | exact HB.out)))); have n1_ := Cz.bk BK234 hb; have n2_ := Cz.bk BK235 hb; have n3_ := Cz.bs (w := w) hb; clear BK234; clear BK235; clear HB; have HO239 := n0_; have BK234 := n1_; have BK235 := n2_; have HB := n3_; clear n0_ n1_ n2_ n3_; (try clear hb); (try clear hb2); (try clear hk); (try clear hi); (try clear ho0)))
    go_loopg [7] kj3 (fun kq v7 w' => ∃ (x7_2 : Int), v7 = .int .i64 x7_2 ∧ Aside0 (waggonerlaw07_ExtentPlain.l0 kq t236 t237 x7_2 a0_0 a0_1 a0_2 a0_3 l0_4 a1_0 a1_1 a1_2 a1_3 l1_4 = some true) ∧ Aside0 (kq ≤ kj3) ∧ Aside0 (Kd.R (Kd.int .u8) 5 w' w.heap.size (fun _ => True) v238 t237) ∧ Aside0 (w'.heap[gb234]? = some (.cells #[.int .i64 a0_0, .int .i64 a0_1, .int .i64 a0_2, .int .i64 a0_3, (.slice A0_4 l0_4.length c0_4)] 46 (0, 0))) ∧ Aside0 (w'.heap[gb235]? = some (.cells #[.int .i64 a1_0, .int .i64 a1_1, .int .i64 a1_2, .int .i64 a1_3, (.slice A1_4 l1_4.length c1_4)] 46 (0, 0))) ∧ Aside0 (Below w.heap.size w w'))
    case atStart => exact ⟨(0), (by first | rfl | (simp; done) | (simp [*]; done)), H', ⟨Nat.le_refl _⟩, ⟨by (with_reducible repeat (first | apply Kd.R_alloc | apply Kd.R_drewN | apply Kd.R_drew)); exact HO239.out⟩, ⟨by (with_reducible repeat (first | refine blk_drewN ?_ _ | refine blk_drew ?_ | refine blk_alloc ?_ _)); exact BK234.out⟩, ⟨by (with_reducible repeat (first | refine blk_drewN ?_ _ | refine blk_drew ?_ | refine blk_alloc ?_ _)); exact BK235.out⟩, ⟨by repeat (first | (with_reducible first | exact HB.out | apply below_alloc | apply pw_below_drewN | apply below_drew1 | refine below_set ?_ GE234.out | refine below_set ?_ GE235.out) | exact HB.out)⟩⟩
    case round =>
     clear H'
     try clear c1
     try clear p2
     try clear c3
     try clear c4
     try clear c8
     try clear c8b0
     try clear c8b1
     try clear c9
     try clear c11
     try clear c14
     try clear c16
     try clear c17
     try clear hcz10_0
     try clear hcz10_1
     try clear hcz10_2
     try clear hcz10_3
     try clear hcz10_4
     try clear hcz12_0
     try clear hcz12_1
     try clear hcz12_2
     try clear hcz12_3
     try clear hcz12_4
     try clear hcz13_0
     try clear hcz13_1
     try clear hcz13_2
     try clear hcz13_3
     try clear hcz13_4
     try clear hcz17_0
     try clear hcz17_1
     try clear hcz17_2
     try clear hcz17_3
     try clear hcz17_4
     try clear hfz10_0
     try clear hfz10_1
     try clear hfz10_2
     try clear hfz10_3
     try clear hfz10_4
     try clear hfz12_0
     try clear hfz12_1
     try clear hfz12_2
     try clear hfz12_3
     try clear hfz12_4
     try clear hfz13_0
     try clear hfz13_1
     try clear hfz13_2
     try clear hfz13_3
     try clear hfz13_4
     try clear hfz17_0
     try clear hfz17_1
     try clear hfz17_2
     try clear hfz17_3
     try clear hfz17_4
     try clear p2
     obtain ⟨x7_2, rfl, HA, HK2, HO_6, BK234, BK235, HB⟩ := hrel
     cases gk with
     | zero => exact absurd HA.out (by simp [waggonerlaw07_ExtentPlain.l0])
     | succ k2 =>
      have H := HA.out
      clear HA
      simp only [waggonerlaw07_ExtentPlain.l0] at H
      by_cases c19 : x7_2 < (t237.length : Int)
      ·rw [if_pos c19] at H
       have c19b0 : decide (x7_2 < (t237.length : Int)) = true := decide_eq_true c19
       clear c19
       by_cases c20 : a0_2 = 2
       ·rw [if_pos c20] at H
        have c20b0 : (a0_2 == 2) = true := beq_iff_eq.mpr c20
        have c20b1 : (a0_2 != 2) = false := bne_eq_false_iff_eq.mpr c20
        clear c20
        have H' := Aside0.mk H
        clear H
        obtain ⟨Ao21, co21, eo21⟩ := Kd.R_slice HO_6.out
        subst eo21
        have hnb22 := NB234_235.out
        have hnc22 := NB235_234.out
        obtain ⟨hcz23_0, hcz23_1, hcz23_2, hcz23_3, hcz23_4, hfz23_0, hfz23_1, hfz23_2, hfz23_3, hfz23_4⟩ := Cz.d5 BK234
        go_wp2
        go_roundg k2
        case measure => have := HJ3.out; have := HK2.out; omega
        case rel => exact ⟨(wrap64 (x7_2 + 1)), (by first | rfl | (simp; done) | (simp [*]; done)), H', ⟨by have := HJ3.out; have := HK2.out; omega⟩, ⟨by (with_reducible repeat (first | apply Kd.R_alloc | apply Kd.R_drewN | apply Kd.R_drew)); exact HO_6.out⟩, ⟨by (with_reducible repeat (first | refine blk_drewN ?_ _ | refine blk_drew ?_ | refine blk_alloc ?_ _)); exact BK234.out⟩, ⟨by (with_reducible repeat (first | refine blk_drewN ?_ _ | refine blk_drew ?_ | refine blk_alloc ?_ _)); exact BK235.out⟩, ⟨by repeat (first | (with_reducible first | exact HB.out | apply below_alloc | apply pw_below_drewN | apply below_drew1 | refine below_set ?_ GE234.out | refine below_set ?_ GE235.out) | exact HB.out)⟩⟩
       ·rw [if_neg c20] at H
        have c20b0 : (a0_2 == 2) = false := beq_eq_false_iff_ne.mpr c20
        have c20b1 : (a0_2 != 2) = true := bne_iff_ne.mpr c20
        by_cases c24 : 0 ≤ x7_2
        ·rw [if_pos c24] at H
         have c24b0 : decide (0 ≤ x7_2) = true := decide_eq_true c24
         clear c24
         by_cases c25 : (rd t237 x7_2) = 0
         ·rw [if_pos c25] at H
          have c25b0 : ((rd t237 x7_2) == 0) = true := beq_iff_eq.mpr c25
          have c25b1 : ((rd t237 x7_2) != 0) = false := bne_eq_false_iff_eq.mpr c25
          clear c25
          have H' := Aside0.mk H
          clear H
          obtain ⟨Ao26, co26, eo26⟩ := Kd.R_slice HO_6.out
          subst eo26
          have hnb27 := NB234_235.out
          have hnc27 := NB235_234.out
          obtain ⟨hcz28_0, hcz28_1, hcz28_2, hcz28_3, hcz28_4, hfz28_0, hfz28_1, hfz28_2, hfz28_3, hfz28_4⟩ := Cz.d5 BK234
          have p240 : 0 ≤ (x7_2 : Int) := of_decide_eq_true (by first | (with_reducible assumption) | assumption)
          have q240 : x7_2 < (t237.length : Int) := of_decide_eq_true (by first | (with_reducible assumption) | assumption)
          obtain ⟨ad240, e240, hx240_0⟩ := Kd.at_int (Kd.R_reads' HO_6.out).2.2 x7_2 p240 q240
          cases e240
          replace p240 := eq_true p240
          replace q240 := eq_true q240
          go_wp2
          go_roundg k2
          case measure => have := HJ3.out; have := HK2.out; omega
          case rel => exact ⟨(wrap64 (x7_2 + 1)), (by first | rfl | (simp; done) | (simp [*]; done)), H', ⟨by have := HJ3.out; have := HK2.out; omega⟩, ⟨by (with_reducible repeat (first | apply Kd.R_alloc | apply Kd.R_drewN | apply Kd.R_drew)); exact HO_6.out⟩, ⟨by (with_reducible repeat (first | refine blk_drewN ?_ _ | refine blk_drew ?_ | refine blk_alloc ?_ _)); exact BK234.out⟩, ⟨by (with_reducible repeat (first | refine blk_drewN ?_ _ | refine blk_drew ?_ | refine blk_alloc ?_ _)); exact BK235.out⟩, ⟨by repeat (first | (with_reducible first | exact HB.out | apply below_alloc | apply pw_below_drewN | apply below_drew1 | refine below_set ?_ GE234.out | refine below_set ?_ GE235.out) | exact HB.out)⟩⟩
         ·rw [if_neg c25] at H
          have c25b0 : ((rd t237 x7_2) == 0) = false := beq_eq_false_iff_ne.mpr c25
          have c25b1 : ((rd t237 x7_2) != 0) = true := bne_iff_ne.mpr c25
          (have HRT := Aside0.mk (Option.some.inj H); clear H)
          obtain ⟨Ao29, co29, eo29⟩ := Kd.R_slice HO_6.out
          subst eo29
          have hnb30 := NB234_235.out
          have hnc30 := NB235_234.out
          obtain ⟨hcz31_0, hcz31_1, hcz31_2, hcz31_3, hcz31_4, hfz31_0, hfz31_1, hfz31_2, hfz31_3, hfz31_4⟩ := Cz.d5 BK234
          have p240 : 0 ≤ (x7_2 : Int) := of_decide_eq_true (by first | (with_reducible assumption) | assumption)
          have q240 : x7_2 < (t237.length : Int) := of_decide_eq_true (by first | (with_reducible assumption) | assumption)
          obtain ⟨ad240, e240, hx240_0⟩ := Kd.at_int (Kd.R_reads' HO_6.out).2.2 x7_2 p240 q240
          cases e240
          replace p240 := eq_true p240
          replace q240 := eq_true q240
          go_wp2
          go_ret
          exact ⟨by first | rfl | (exact congrArg (fun z_ => Ending.returned (Value.bool z_)) HRT.out) | (rw [HRT.out]; done) | (simp [errW_none, errW_some] <;> rfl) | (simp [*, errW_none, errW_some] <;> rfl), by repeat (first | (with_reducible first | exact HB.out | apply below_alloc | apply pw_below_drewN | apply below_drew1 | refine below_set ?_ GE234.out | refine below_set ?_ GE235.out) | exact HB.out)⟩
        ·rw [if_neg c24] at H
         exact absurd H (by simp)
      ·rw [if_neg c19] at H
       have c19b0 : decide (x7_2 < (t237.length : Int)) = false := decide_eq_false c19
       clear c19
       replace H := Option.bind_eq_some_iff.mp H
       obtain ⟨⟨t241, t242, t243, t244, t245, t248⟩, A320, H⟩ := H
       (try dsimp only at H)
       have A32 := Aside0.mk A320
       clear A320
       replace H := Option.bind_eq_some_iff.mp H
       obtain ⟨t250, A330, H⟩ := H
       (try dsimp only at H)
       have A33 := Aside0.mk A330
       clear A330
       by_cases c34 : t250 = true
       ·subst c34
        rw [if_pos rfl] at H
        replace H := Option.bind_eq_some_iff.mp H
        obtain ⟨t251, A350, H⟩ := H
        (try dsimp only at H)
        have A35 := Aside0.mk A350
        clear A350
        replace H := Option.bind_eq_some_iff.mp H
        obtain ⟨t254, A360, H⟩ := H
        (try dsimp only at H)
        have A36 := Aside0.mk A360
        clear A360
        by_cases c37 : (strOfNums t251).size + (strOfNums t254).size ≤ 9223372036854775807
        ·rw [if_pos c37] at H
         have c37b0 := eq_true c37
         have c37b1 : decide ((strOfNums t251).size + (strOfNums t254).size ≤ 9223372036854775807) = true := decide_eq_true c37
         try have c37b2 : (9223372036854775807 < (strOfNums t251).size + (strOfNums t254).size) = False := eq_false (Nat.not_lt.2 c37)
         by_cases c38 : t236 = true
         ·subst c38
          rw [if_pos rfl] at H
          by_cases c39 : t248 = 0
          ·rw [if_pos c39] at H
           have c39b0 : (t248 == 0) = true := beq_iff_eq.mpr c39
           have c39b1 : (t248 != 0) = false := bne_eq_false_iff_eq.mpr c39
           clear c39
           by_cases c40 : a0_2 = a1_2
           ·rw [if_pos c40] at H
            have c40b0 : (a0_2 == a1_2) = true := beq_iff_eq.mpr c40
            have c40b1 : (a0_2 != a1_2) = false := bne_eq_false_iff_eq.mpr c40
            clear c40
            by_cases c41 : a0_3 = a1_3
            ·rw [if_pos c41] at H
             have c41b0 : (a0_3 == a1_3) = true := beq_iff_eq.mpr c41
             have c41b1 : (a0_3 != a1_3) = false := bne_eq_false_iff_eq.mpr c41
             clear c41
             by_cases c42 : a1_0 = (wrap64 (a0_0 + a0_1))
             ·rw [if_pos c42] at H
              have c42b0 : (a1_0 == (wrap64 (a0_0 + a0_1))) = true := beq_iff_eq.mpr c42
              have c42b1 : (a1_0 != (wrap64 (a0_0 + a0_1))) = false := bne_eq_false_iff_eq.mpr c42
              clear c42
              by_cases c43 : t241 = a0_0
              ·rw [if_pos c43] at H
               have c43b0 : (t241 == a0_0) = true := beq_iff_eq.mpr c43
               have c43b1 : (t241 != a0_0) = false := bne_eq_false_iff_eq.mpr c43
               clear c43
               by_cases c44 : t242 = (wrap64 (a0_1 + a1_1))
               ·rw [if_pos c44] at H
                have c44b0 : (t242 == (wrap64 (a0_1 + a1_1))) = true := beq_iff_eq.mpr c44
                have c44b1 : (t242 != (wrap64 (a0_1 + a1_1))) = false := bne_eq_false_iff_eq.mpr c44
                clear c44
                replace H := Option.bind_eq_some_iff.mp H
                obtain ⟨t257, A450, H⟩ := H
                (try dsimp only at H)
                have A45 := Aside0.mk A450
                clear A450
                by_cases c46 : (strOfNums t257).toList = ((strOfNums t251) ++ (strOfNums t254)).toList
                ·rw [if_pos c46] at H
                 have c46b0 : ((strOfNums t257).toList == ((strOfNums t251) ++ (strOfNums t254)).toList) = true := beq_iff_eq.mpr c46
                 have c46b1 : ((strOfNums t257).toList != ((strOfNums t251) ++ (strOfNums t254)).toList) = false := bne_eq_false_iff_eq.mpr c46
                 clear c46
                 replace H := Option.bind_eq_some_iff.mp H
                 obtain ⟨t260, A470, H⟩ := H
                 (try dsimp only at H)
                 have A47 := Aside0.mk A470
                 clear A470
                 (have HRT := Aside0.mk (Option.some.inj H); clear H)
                 obtain ⟨Ao48, co48, eo48⟩ := Kd.R_slice HO_6.out
                 subst eo48
                 have hnb49 := NB234_235.out
                 have hnc49 := NB235_234.out
                 obtain ⟨hcz50_0, hcz50_1, hcz50_2, hcz50_3, hcz50_4, hfz50_0, hfz50_1, hfz50_2, hfz50_3, hfz50_4⟩ := Cz.d5 BK234
                 obtain ⟨hcz51_0, hcz51_1, hcz51_2, hcz51_3, hcz51_4, hfz51_0, hfz51_1, hfz51_2, hfz51_3, hfz51_4⟩ := Cz.d5 BK235
                 try go_wp2_with (first | ((with_reducible refine gate_callee (f := 35) rfl ?_); refine Cz.gL (N := (some 44)) Try.func35 #[.agg #[.int .i64 a0_0, .int .i64 a0_1, .int .i64 a0_2, .int .i64 a0_3, .slice A0_4 l0_4.length c0_4], .agg #[.int .i64 a1_0, .int .i64 a1_1, .int .i64 a1_2, .int .i64 a1_3, .slice A1_4 l1_4.length c1_4]] ?_; (with_reducible refine (extent_Join.calls a0_0 a0_1 a0_2 a0_3 _ _ l0_4 a1_0 a1_1 a1_2 a1_3 _ _ l1_4 t241 t242 t243 t244 t245 t248 _ ?side1 ?side2 ?side3 ?side4 A32.out).mono ?_); (case side1 => exact Cz.cb HR0_4); (case side2 => exact HC0_4.out); (case side3 => exact Cz.cb HR1_4); (case side4 => exact HC1_4.out); rintro e w52 ⟨v246, rfl, ho0, hb⟩; refine ⟨_, rfl, ?_⟩; have n0_ := Aside0.mk (Kd.R_elder' (by (with_reducible repeat (first | apply Kd.R_alloc | apply Kd.R_drewN | apply Kd.R_drew)); exact HO_6.out) (Kd.R_base ho0) hb); have n1_ := Aside0.mk (Kd.R_lower (Kd.R_new' ho0 (Kd.R_lt (by (with_reducible repeat (first | apply Kd.R_alloc | apply Kd.R_drewN | apply Kd.R_drew)); exact HO_6.out))) (below_size (by repeat (first | (with_reducible first | exact HB.out | apply below_alloc | apply pw_below_drewN | apply below_drew1 | refine below_set ?_ GE234.out | refine below_set ?_ GE235.out) | exact HB.out)))); have n2_ := Cz.bk BK234 hb; have n3_ := Cz.bk BK235 hb; have n4_ := Cz.bs (w := w) hb; clear HO_6; clear BK234; clear BK235; clear HB; have HO_6 := n0_; have HO247 := n1_; have BK234 := n2_; have BK235 := n3_; have HB := n4_; clear n0_ n1_ n2_ n3_ n4_; (try clear hb); (try clear hb2); (try clear hk); (try clear hi); (try clear ho0)) | ((with_reducible refine gate_dst (N := 8) rfl ?_); (try (refine gate_guard (by rfl) ?_; dsimp only)); refine box_event ?hg (N := 8) ?hd (cs := #[.int .i64 0, .int .i64 0, .int .i64 0, .int .i64 0, .slice none 0 0]) (t := 46) ?hr ?_; (case hd => rfl); (case hg => rfl); (case hr => first | (go_simp; done) | (go_simp; rfl)); intro gb249 hg w53 hbox hb; have n0_ := Cz.rb HO_6 hb; have n1_ := Cz.rb HO247 hb; have n2_ := Cz.bk BK234 hb; have n3_ := Cz.bk BK235 hb; have n4_ := Cz.bs (w := w) hb; have n5_ := Aside0.mk (hbox); have n6_ := Aside0.mk ((Cz.gs hg : w.heap.size ≤ gb249)); have n7_ := Aside0.mk ((Cz.gs hg : w.heap.size ≤ gb249)); have n8_ := Aside0.mk ((Cz.nl BK234 hg : gb234 ≠ gb249)); have n9_ := Aside0.mk ((Cz.nr BK234 hg : gb249 ≠ gb234)); have n10_ := Aside0.mk ((Cz.nl BK235 hg : gb235 ≠ gb249)); have n11_ := Aside0.mk ((Cz.nr BK235 hg : gb249 ≠ gb235)); clear HO_6; clear HO247; clear BK234; clear BK235; clear HB; have HO_6 := n0_; have HO247 := n1_; have BK234 := n2_; have BK235 := n3_; have HB := n4_; have BK249 := n5_; have GW249 := n6_; have GE249 := n7_; have NB234_249 := n8_; have NB249_234 := n9_; have NB235_249 := n10_; have NB249_235 := n11_; clear n0_ n1_ n2_ n3_ n4_ n5_ n6_ n7_ n8_ n9_ n10_ n11_; clear hb hbox hg; have hnb54 := NB249_234.out; have hnc54 := NB234_249.out; have hnb55 := NB249_235.out; have hnc55 := NB235_249.out; obtain ⟨hcz56_0, hcz56_1, hcz56_2, hcz56_3, hcz56_4, hfz56_0, hfz56_1, hfz56_2, hfz56_3, hfz56_4⟩ := Cz.d5 BK249; obtain ⟨Ao57, co57, eo57⟩ := Kd.R_slice HO247.out; subst eo57; obtain ⟨hcz58_0, hcz58_1, hcz58_2, hcz58_3, hcz58_4, hfz58_0, hfz58_1, hfz58_2, hfz58_3, hfz58_4⟩ := Cz.d5 BK234; obtain ⟨hcz59_0, hcz59_1, hcz59_2, hcz59_3, hcz59_4, hfz59_0, hfz59_1, hfz59_2, hfz59_3, hfz59_4⟩ := Cz.d5 BK235) | ((with_reducible refine gate_callee (f := 42) rfl ?_); refine Cz.gL (N := (some 49)) Try.func42 #[.agg #[.int .i64 a0_0, .int .i64 a0_1, .int .i64 a0_2, .int .i64 a0_3, .slice A0_4 l0_4.length c0_4], .agg #[.int .i64 a1_0, .int .i64 a1_1, .int .i64 a1_2, .int .i64 a1_3, .slice A1_4 l1_4.length c1_4]] ?_; (with_reducible refine (extent_Joins.calls a0_0 a0_1 a0_2 a0_3 _ _ l0_4 a1_0 a1_1 a1_2 a1_3 _ _ l1_4 true _ ?side1 ?side2 ?side3 ?side4 A33.out).mono ?_); (case side1 => exact Kd.C_below HR0_4.out (by repeat (first | (with_reducible first | exact HB.out | apply below_alloc | apply pw_below_drewN | apply below_drew1 | refine below_set ?_ GE234.out | refine below_set ?_ GE235.out | refine below_set ?_ GE249.out) | exact HB.out))); (case side2 => exact HC0_4.out); (case side3 => exact Kd.C_below HR1_4.out (by repeat (first | (with_reducible first | exact HB.out | apply below_alloc | apply pw_below_drewN | apply below_drew1 | refine below_set ?_ GE234.out | refine below_set ?_ GE235.out | refine below_set ?_ GE249.out) | exact HB.out))); (case side4 => exact HC1_4.out); rintro e w60 ⟨rfl, hb⟩; refine ⟨_, rfl, ?_⟩; have n0_ := Aside0.mk (Kd.R_below (by (with_reducible repeat (first | apply Kd.R_alloc | apply Kd.R_drewN | apply Kd.R_drew)); exact (Kd.R_mono (Kd.R_far (p := ⟨gb249, 4, none⟩) (Kd.R_far (p := ⟨gb249, 3, none⟩) (Kd.R_far (p := ⟨gb249, 2, none⟩) (Kd.R_far (p := ⟨gb249, 1, none⟩) (Kd.R_far (p := ⟨gb249, 0, none⟩) (Kd.R_types HO_6.out BK249.out (by decide)) (fun _ hk => hk.2) (.int .i64 t241)) (fun _ hk => hk.2) (.int .i64 t242)) (fun _ hk => hk.2) (.int .i64 t243)) (fun _ hk => hk.2) (.int .i64 t244)) (fun _ hk => hk.2) (.slice Ao57 t245.length co57)) (fun _ h_ => h_.1))) hb); have n1_ := Aside0.mk (Kd.R_below (by (with_reducible repeat (first | apply Kd.R_alloc | apply Kd.R_drewN | apply Kd.R_drew)); exact (Kd.R_mono (Kd.R_far (p := ⟨gb249, 4, none⟩) (Kd.R_far (p := ⟨gb249, 3, none⟩) (Kd.R_far (p := ⟨gb249, 2, none⟩) (Kd.R_far (p := ⟨gb249, 1, none⟩) (Kd.R_far (p := ⟨gb249, 0, none⟩) (Kd.R_types HO247.out BK249.out (by decide)) (fun _ hk => hk.2) (.int .i64 t241)) (fun _ hk => hk.2) (.int .i64 t242)) (fun _ hk => hk.2) (.int .i64 t243)) (fun _ hk => hk.2) (.int .i64 t244)) (fun _ hk => hk.2) (.slice Ao57 t245.length co57)) (fun _ h_ => h_.1))) hb); have n2_ := Aside0.mk (blk_below (g := gb234) (o := .cells #[.int .i64 a0_0, .int .i64 a0_1, .int .i64 a0_2, .int .i64 a0_3, .slice A0_4 l0_4.length c0_4] 46 (0, 0)) (by (with_reducible repeat (first | refine blk_drewN ?_ _ | refine blk_drew ?_ | refine blk_alloc ?_ _)); refine blk_far ?_ NB234_249.out _; refine blk_far ?_ NB234_249.out _; refine blk_far ?_ NB234_249.out _; refine blk_far ?_ NB234_249.out _; refine blk_far ?_ NB234_249.out _; (with_reducible repeat (first | refine blk_drewN ?_ _ | refine blk_drew ?_ | refine blk_alloc ?_ _)); exact BK234.out) hb); have n3_ := Aside0.mk (blk_below (g := gb235) (o := .cells #[.int .i64 a1_0, .int .i64 a1_1, .int .i64 a1_2, .int .i64 a1_3, .slice A1_4 l1_4.length c1_4] 46 (0, 0)) (by (with_reducible repeat (first | refine blk_drewN ?_ _ | refine blk_drew ?_ | refine blk_alloc ?_ _)); refine blk_far ?_ NB235_249.out _; refine blk_far ?_ NB235_249.out _; refine blk_far ?_ NB235_249.out _; refine blk_far ?_ NB235_249.out _; refine blk_far ?_ NB235_249.out _; (with_reducible repeat (first | refine blk_drewN ?_ _ | refine blk_drew ?_ | refine blk_alloc ?_ _)); exact BK235.out) hb); have n4_ := Aside0.mk (blk_below (g := gb249) (o := .cells #[.int .i64 t241, .int .i64 t242, .int .i64 t243, .int .i64 t244, .slice Ao57 t245.length co57] 46 (0, 0)) (by (with_reducible repeat (first | refine blk_drewN ?_ _ | refine blk_drew ?_ | refine blk_alloc ?_ _)); refine blk_put (cs := #[.int .i64 t241, .int .i64 t242, .int .i64 t243, .int .i64 t244, .slice none 0 0]) ?_ 4 _ rfl; refine blk_put (cs := #[.int .i64 t241, .int .i64 t242, .int .i64 t243, .int .i64 0, .slice none 0 0]) ?_ 3 _ rfl; refine blk_put (cs := #[.int .i64 t241, .int .i64 t242, .int .i64 0, .int .i64 0, .slice none 0 0]) ?_ 2 _ rfl; refine blk_put (cs := #[.int .i64 t241, .int .i64 0, .int .i64 0, .int .i64 0, .slice none 0 0]) ?_ 1 _ rfl; refine blk_put (cs := #[.int .i64 0, .int .i64 0, .int .i64 0, .int .i64 0, .slice none 0 0]) ?_ 0 _ rfl; (with_reducible repeat (first | refine blk_drewN ?_ _ | refine blk_drew ?_ | refine blk_alloc ?_ _)); exact BK249.out) hb); have n5_ := Cz.bs (w := w) hb; clear HO_6; clear HO247; clear BK234; clear BK235; clear BK249; clear HB; have HO_6 := n0_; have HO247 := n1_; have BK234 := n2_; have BK235 := n3_; have BK249 := n4_; have HB := n5_; clear n0_ n1_ n2_ n3_ n4_ n5_; (try clear hb); (try clear hb2); (try clear hk); (try clear hi)))
                 have n0_ := Aside0.mk (Kd.R_drew HO_6.out)
                 have n1_ := Aside0.mk (Kd.R_drew HO247.out)
                 have n2_ := Aside0.mk (blk_drew BK234.out)
                 have n3_ := Aside0.mk (blk_drew BK235.out)
                 have n4_ := Aside0.mk (blk_drew BK249.out)
                 have n5_ := Aside0.mk (below_drew1 HB.out)
                 clear HO_6
                 clear HO247
                 clear BK234
                 clear BK235
                 clear BK249
                 clear HB
                 have HO_6 := n0_
                 have HO247 := n1_
                 have BK234 := n2_
                 have BK235 := n3_
                 have BK249 := n4_
                 have HB := n5_
                 clear n0_ n1_ n2_ n3_ n4_ n5_
                 refine start_ (n := 8) (S := fun w' => w'.cell? ⟨gb234, 0, none⟩ = some (.int .i64 a0_0) ∧ w'.cell? ⟨gb234, 1, none⟩ = some (.int .i64 a0_1) ∧ w'.cell? ⟨gb234, 2, none⟩ = some (.int .i64 a0_2) ∧ w'.cell? ⟨gb234, 3, none⟩ = some (.int .i64 a0_3) ∧ w'.cell? ⟨gb234, 4, none⟩ = some (.slice A0_4 l0_4.length c0_4) ∧ w'.cell? ⟨gb235, 0, none⟩ = some (.int .i64 a1_0) ∧ w'.cell? ⟨gb235, 1, none⟩ = some (.int .i64 a1_1) ∧ w'.cell? ⟨gb235, 2, none⟩ = some (.int .i64 a1_2) ∧ w'.cell? ⟨gb235, 3, none⟩ = some (.int .i64 a1_3) ∧ w'.cell? ⟨gb235, 4, none⟩ = some (.slice A1_4 l1_4.length c1_4)) (ds := []) #[false, false, false, false, false, false, false, false] (by kernel_rfl) rfl rfl ⟨(blk_cell BK234.out 0).trans rfl, (blk_cell BK234.out 1).trans rfl, (blk_cell BK234.out 2).trans rfl, (blk_cell BK234.out 3).trans rfl, (blk_cell BK234.out 4).trans rfl, (blk_cell BK235.out 0).trans rfl, (blk_cell BK235.out 1).trans rfl, (blk_cell BK235.out 2).trans rfl, (blk_cell BK235.out 3).trans rfl, (blk_cell BK235.out 4).trans rfl⟩ (fun hHeld => ?_); refine with_tabW waggonerlaw07_ExtentPlain.tab13 waggonerlaw07_ExtentPlain.bits13 (fun HT_ HW_ => ?_)
                 generalize w60.drew = w61 at HO_6 HO247 BK234 BK235 BK249 HB hHeld ⊢
                 refine Cz.qT 0 56 HT_ HW_ hHeld ?_
                 refine Cz.qT 3 59 HT_ HW_ hHeld ?_
                 refine Cz.qO (N := some 57) 1 HT_ (fun K hK => ?_)
                 refine Cz.gO Try.func40 #[.agg #[.int .i64 a0_0, .int .i64 a0_1, .int .i64 a0_2, .int .i64 a0_3, .slice A0_4 l0_4.length c0_4]] ?_
                 with_reducible refine (extent_Bytes.calls a0_0 a0_1 a0_2 a0_3 _ _ l0_4 t251 _ ?side1 ?side2 A35.out).mono ?_
                 (case side1 => exact Cz.cb HR0_4)
                 (case side2 => exact HC0_4.out)
                 rintro e w62 ⟨v252, rfl, ho0, hb⟩
                 refine ⟨_, rfl, ?_⟩
                 have n0_ := Aside0.mk (Kd.R_elder' (by (with_reducible repeat (first | apply Kd.R_alloc | apply Kd.R_drewN | apply Kd.R_drew)); exact HO_6.out) (Kd.R_base ho0) hb)
                 have n1_ := Aside0.mk (Kd.R_elder' (by (with_reducible repeat (first | apply Kd.R_alloc | apply Kd.R_drewN | apply Kd.R_drew)); exact HO247.out) (Kd.R_base ho0) hb)
                 have n2_ := Aside0.mk (Kd.R_lower (Kd.R_new' (Kd.R_new' ho0 (Kd.R_lt (by (with_reducible repeat (first | apply Kd.R_alloc | apply Kd.R_drewN | apply Kd.R_drew)); exact HO_6.out))) (Kd.R_lt (by (with_reducible repeat (first | apply Kd.R_alloc | apply Kd.R_drewN | apply Kd.R_drew)); exact HO247.out))) (below_size (by repeat (first | (with_reducible first | exact HB.out | apply below_alloc | apply pw_below_drewN | apply below_drew1 | refine below_set ?_ GE234.out | refine below_set ?_ GE235.out | refine below_set ?_ GE249.out) | exact HB.out))))
                 have n3_ := Cz.bk BK234 hb
                 have n4_ := Cz.bk BK235 hb
                 have n5_ := Cz.bk BK249 hb
                 have n6_ := Cz.bs (w := w) hb
                 clear HO_6
                 clear HO247
                 clear BK234
                 clear BK235
                 clear BK249
                 clear HB
                 have HO_6 := n0_
                 have HO247 := n1_
                 have HO253 := n2_
                 have BK234 := n3_
                 have BK235 := n4_
                 have BK249 := n5_
                 have HB := n6_
                 clear n0_ n1_ n2_ n3_ n4_ n5_ n6_
                 (try clear hb)
                 (try clear hb2)
                 (try clear hk)
                 (try clear hi)
                 (try clear ho0)
                 refine hK.out _ _ ⟨(blk_cell BK234.out 0).trans rfl, (blk_cell BK234.out 1).trans rfl, (blk_cell BK234.out 2).trans rfl, (blk_cell BK234.out 3).trans rfl, (blk_cell BK234.out 4).trans rfl, (blk_cell BK235.out 0).trans rfl, (blk_cell BK235.out 1).trans rfl, (blk_cell BK235.out 2).trans rfl, (blk_cell BK235.out 3).trans rfl, (blk_cell BK235.out 4).trans rfl⟩ (fun hHeld => ?_)
                 clear hK K
                 refine norm_ (a' := ?_) ?_ ?_
                 rotate_left
                 ·show Act.put _ (some 57) _ = _
                  simp only [Act.put, Kx.sb, Kx.sz, Kx.ss, i64_w, i32_w]
                  rfl
                 refine join_ (σ := Value) 2 #[true, true, true, true, true, true, false, false] (fun s_ => [(58, .string (strOfNums t251)), (60, s_), (61, .string (strOfNums t254))]) (fun s_ w' => (w'.cell? ⟨gb234, 0, none⟩ = some (.int .i64 a0_0) ∧ w'.cell? ⟨gb234, 1, none⟩ = some (.int .i64 a0_1) ∧ w'.cell? ⟨gb234, 2, none⟩ = some (.int .i64 a0_2) ∧ w'.cell? ⟨gb234, 3, none⟩ = some (.int .i64 a0_3) ∧ w'.cell? ⟨gb234, 4, none⟩ = some (.slice A0_4 l0_4.length c0_4) ∧ w'.cell? ⟨gb235, 0, none⟩ = some (.int .i64 a1_0) ∧ w'.cell? ⟨gb235, 1, none⟩ = some (.int .i64 a1_1) ∧ w'.cell? ⟨gb235, 2, none⟩ = some (.int .i64 a1_2) ∧ w'.cell? ⟨gb235, 3, none⟩ = some (.int .i64 a1_3) ∧ w'.cell? ⟨gb235, 4, none⟩ = some (.slice A1_4 l1_4.length c1_4)) ∧ (Kd.R (Kd.int .u8) 5 w' w.heap.size (fun k_ => some k_ ≠ (v252 : Value).ownBlock ∧ some k_ ≠ (s_ : Value).ownBlock ∧ some k_ ≠ (.slice Ao48 t237.length co48 : Value).ownBlock) (.slice Ao57 t245.length co57) t245) ∧ (Kd.R (Kd.int .u8) 5 w' w.heap.size (fun k_ => some k_ ≠ (.slice Ao57 t245.length co57 : Value).ownBlock ∧ some k_ ≠ (s_ : Value).ownBlock ∧ some k_ ≠ (.slice Ao48 t237.length co48 : Value).ownBlock) v252 t251) ∧ (Kd.R (Kd.int .u8) 5 w' w.heap.size (fun k_ => some k_ ≠ (.slice Ao57 t245.length co57 : Value).ownBlock ∧ some k_ ≠ (v252 : Value).ownBlock ∧ some k_ ≠ (.slice Ao48 t237.length co48 : Value).ownBlock) s_ t254) ∧ (Kd.R (Kd.int .u8) 5 w' w.heap.size (fun k_ => some k_ ≠ (.slice Ao57 t245.length co57 : Value).ownBlock ∧ some k_ ≠ (v252 : Value).ownBlock ∧ some k_ ≠ (s_ : Value).ownBlock) (.slice Ao48 t237.length co48) t237) ∧ (w'.heap[gb234]? = some (.cells #[.int .i64 a0_0, .int .i64 a0_1, .int .i64 a0_2, .int .i64 a0_3, .slice A0_4 l0_4.length c0_4] 46 (0, 0))) ∧ (w'.heap[gb235]? = some (.cells #[.int .i64 a1_0, .int .i64 a1_1, .int .i64 a1_2, .int .i64 a1_3, .slice A1_4 l1_4.length c1_4] 46 (0, 0))) ∧ (w'.heap[gb249]? = some (.cells #[.int .i64 t241, .int .i64 t242, .int .i64 t243, .int .i64 t244, .slice Ao57 t245.length co57] 46 (0, 0))) ∧ (Below w.heap.size w w')) ?_ ?_
                 rotate_left
                 ·intro hCont
                  refine two_ (i := 2) (j := 4) (Ni := some 58) (Nj := some 60) #[true, true, true, true, false, false, false, false] #[true, true, false, true, true, false, false, false] rfl rfl rfl rfl (two_of HT_.out (by kernel_rfl)) (by decide) (by decide) (fun K hK => ?_) (fun K hK => ?_)
                  ·skip
                   have hcv63 := own_string (P := Try.prog) Try.underlying23 Try.underlying5 Try.underlying9 (Kd.own_of_R HO253.out)
                   refine value_ (w1 := ?_) (v := ?_) (by rfl) rfl ?_ ?_
                   rotate_left 2
                   ·go_simp
                    constructor
                    ·rfl
                    ·rfl
                   clear hcv63
                   refine hK.out _ _ ⟨(blk_cell BK234.out 0).trans rfl, (blk_cell BK234.out 1).trans rfl, (blk_cell BK234.out 2).trans rfl, (blk_cell BK234.out 3).trans rfl, (blk_cell BK234.out 4).trans rfl, (blk_cell BK235.out 0).trans rfl, (blk_cell BK235.out 1).trans rfl, (blk_cell BK235.out 2).trans rfl, (blk_cell BK235.out 3).trans rfl, (blk_cell BK235.out 4).trans rfl⟩ (fun hHeld => ?_)
                   clear hK K
                   refine norm_ (a' := ?_) ?_ ?_
                   rotate_left
                   ·show Act.put _ (some 58) _ = _
                    simp only [Act.put, Kx.sb, Kx.sz, Kx.ss, i64_w, i32_w]
                    rfl
                   refine Cz.qO (N := some 60) 4 HT_ (fun K hK => ?_)
                   refine Cz.gO Try.func40 #[.agg #[.int .i64 a1_0, .int .i64 a1_1, .int .i64 a1_2, .int .i64 a1_3, .slice A1_4 l1_4.length c1_4]] ?_
                   with_reducible refine (extent_Bytes.calls a1_0 a1_1 a1_2 a1_3 _ _ l1_4 t254 _ ?side1 ?side2 A36.out).mono ?_
                   (case side1 => exact Cz.cb HR1_4)
                   (case side2 => exact HC1_4.out)
                   rintro e w64 ⟨v255, rfl, ho0, hb⟩
                   refine ⟨_, rfl, ?_⟩
                   have n0_ := Aside0.mk (Kd.R_elder' (by (with_reducible repeat (first | apply Kd.R_alloc | apply Kd.R_drewN | apply Kd.R_drew)); exact HO_6.out) (Kd.R_base ho0) hb)
                   have n1_ := Aside0.mk (Kd.R_elder' (by (with_reducible repeat (first | apply Kd.R_alloc | apply Kd.R_drewN | apply Kd.R_drew)); exact HO247.out) (Kd.R_base ho0) hb)
                   have n2_ := Aside0.mk (Kd.R_elder' (by (with_reducible repeat (first | apply Kd.R_alloc | apply Kd.R_drewN | apply Kd.R_drew)); exact HO253.out) (Kd.R_base ho0) hb)
                   have n3_ := Aside0.mk (Kd.R_lower (Kd.R_new' (Kd.R_new' (Kd.R_new' ho0 (Kd.R_lt (by (with_reducible repeat (first | apply Kd.R_alloc | apply Kd.R_drewN | apply Kd.R_drew)); exact HO_6.out))) (Kd.R_lt (by (with_reducible repeat (first | apply Kd.R_alloc | apply Kd.R_drewN | apply Kd.R_drew)); exact HO247.out))) (Kd.R_lt (by (with_reducible repeat (first | apply Kd.R_alloc | apply Kd.R_drewN | apply Kd.R_drew)); exact HO253.out))) (below_size (by repeat (first | (with_reducible first | exact HB.out | apply below_alloc | apply pw_below_drewN | apply below_drew1 | refine below_set ?_ GE234.out | refine below_set ?_ GE235.out | refine below_set ?_ GE249.out) | exact HB.out))))
                   have n4_ := Cz.bk BK234 hb
                   have n5_ := Cz.bk BK235 hb
                   have n6_ := Cz.bk BK249 hb
                   have n7_ := Cz.bs (w := w) hb
                   clear HO_6
                   clear HO247
                   clear HO253
                   clear BK234
                   clear BK235
                   clear BK249
                   clear HB
                   have HO_6 := n0_
                   have HO247 := n1_
                   have HO253 := n2_
                   have HO256 := n3_
                   have BK234 := n4_
                   have BK235 := n5_
                   have BK249 := n6_
                   have HB := n7_
                   clear n0_ n1_ n2_ n3_ n4_ n5_ n6_ n7_
                   (try clear hb)
                   (try clear hb2)
                   (try clear hk)
                   (try clear hi)
                   (try clear ho0)
                   refine hK.out _ _ ⟨(blk_cell BK234.out 0).trans rfl, (blk_cell BK234.out 1).trans rfl, (blk_cell BK234.out 2).trans rfl, (blk_cell BK234.out 3).trans rfl, (blk_cell BK234.out 4).trans rfl, (blk_cell BK235.out 0).trans rfl, (blk_cell BK235.out 1).trans rfl, (blk_cell BK235.out 2).trans rfl, (blk_cell BK235.out 3).trans rfl, (blk_cell BK235.out 4).trans rfl⟩ (fun hHeld => ?_)
                   clear hK K
                   refine norm_ (a' := ?_) ?_ ?_
                   rotate_left
                   ·show Act.put _ (some 60) _ = _
                    simp only [Act.put, Kx.sb, Kx.sz, Kx.ss, i64_w, i32_w]
                    rfl
                   refine Cz.qO (N := some 61) 5 HT_ (fun K hK => ?_)
                   have hcv65 := own_string (P := Try.prog) Try.underlying23 Try.underlying5 Try.underlying9 (Kd.own_of_R HO256.out)
                   refine value_ (w1 := ?_) (v := ?_) (by rfl) rfl ?_ ?_
                   rotate_left 2
                   ·go_simp
                    constructor
                    ·rfl
                    ·rfl
                   clear hcv65
                   refine hK.out _ _ ⟨(blk_cell BK234.out 0).trans rfl, (blk_cell BK234.out 1).trans rfl, (blk_cell BK234.out 2).trans rfl, (blk_cell BK234.out 3).trans rfl, (blk_cell BK234.out 4).trans rfl, (blk_cell BK235.out 0).trans rfl, (blk_cell BK235.out 1).trans rfl, (blk_cell BK235.out 2).trans rfl, (blk_cell BK235.out 3).trans rfl, (blk_cell BK235.out 4).trans rfl⟩ (fun hHeld => ?_)
                   clear hK K
                   refine norm_ (a' := ?_) ?_ ?_
                   rotate_left
                   ·show Act.put _ (some 61) _ = _
                    simp only [Act.put, Kx.sb, Kx.sz, Kx.ss, i64_w, i32_w]
                    rfl
                   exact norm_ (by simp only [putAll, Act.put, Kx.sb, Kx.sz, Kx.ss]) (hCont (v255) _ ⟨hHeld, (by (with_reducible repeat (first | apply Kd.R_alloc | apply Kd.R_drewN | apply Kd.R_drew)); exact Kd.R_mono HO247.out (fun _ hk => ⟨hk.1.2, ⟨hk.2, hk.1.1.2⟩⟩)), (by (with_reducible repeat (first | apply Kd.R_alloc | apply Kd.R_drewN | apply Kd.R_drew)); exact Kd.R_mono HO253.out (fun _ hk => ⟨hk.1.2, ⟨hk.2, hk.1.1.2⟩⟩)), (by (with_reducible repeat (first | apply Kd.R_alloc | apply Kd.R_drewN | apply Kd.R_drew)); exact Kd.R_mono HO256.out (fun _ hk => ⟨hk.1.2, ⟨hk.2, hk.1.1.2⟩⟩)), (by (with_reducible repeat (first | apply Kd.R_alloc | apply Kd.R_drewN | apply Kd.R_drew)); exact Kd.R_mono HO_6.out (fun _ hk => ⟨hk.1.1.2, ⟨hk.1.2, hk.2⟩⟩)), (by (with_reducible repeat (first | refine blk_drewN ?_ _ | refine blk_drew ?_ | refine blk_alloc ?_ _)); exact BK234.out), (by (with_reducible repeat (first | refine blk_drewN ?_ _ | refine blk_drew ?_ | refine blk_alloc ?_ _)); exact BK235.out), (by (with_reducible repeat (first | refine blk_drewN ?_ _ | refine blk_drew ?_ | refine blk_alloc ?_ _)); exact BK249.out), (by repeat (first | (with_reducible first | exact HB.out | apply below_alloc | apply pw_below_drewN | apply below_drew1 | refine below_set ?_ GE234.out | refine below_set ?_ GE235.out | refine below_set ?_ GE249.out) | exact HB.out))⟩)
                  ·skip
                   refine Cz.gO Try.func40 #[.agg #[.int .i64 a1_0, .int .i64 a1_1, .int .i64 a1_2, .int .i64 a1_3, .slice A1_4 l1_4.length c1_4]] ?_
                   with_reducible refine (extent_Bytes.calls a1_0 a1_1 a1_2 a1_3 _ _ l1_4 t254 _ ?side1 ?side2 A36.out).mono ?_
                   (case side1 => exact Cz.cb HR1_4)
                   (case side2 => exact HC1_4.out)
                   rintro e w63 ⟨v255, rfl, ho0, hb⟩
                   refine ⟨_, rfl, ?_⟩
                   have n0_ := Aside0.mk (Kd.R_elder' (by (with_reducible repeat (first | apply Kd.R_alloc | apply Kd.R_drewN | apply Kd.R_drew)); exact HO_6.out) (Kd.R_base ho0) hb)
                   have n1_ := Aside0.mk (Kd.R_elder' (by (with_reducible repeat (first | apply Kd.R_alloc | apply Kd.R_drewN | apply Kd.R_drew)); exact HO247.out) (Kd.R_base ho0) hb)
                   have n2_ := Aside0.mk (Kd.R_elder' (by (with_reducible repeat (first | apply Kd.R_alloc | apply Kd.R_drewN | apply Kd.R_drew)); exact HO253.out) (Kd.R_base ho0) hb)
                   have n3_ := Aside0.mk (Kd.R_lower (Kd.R_new' (Kd.R_new' (Kd.R_new' ho0 (Kd.R_lt (by (with_reducible repeat (first | apply Kd.R_alloc | apply Kd.R_drewN | apply Kd.R_drew)); exact HO_6.out))) (Kd.R_lt (by (with_reducible repeat (first | apply Kd.R_alloc | apply Kd.R_drewN | apply Kd.R_drew)); exact HO247.out))) (Kd.R_lt (by (with_reducible repeat (first | apply Kd.R_alloc | apply Kd.R_drewN | apply Kd.R_drew)); exact HO253.out))) (below_size (by repeat (first | (with_reducible first | exact HB.out | apply below_alloc | apply pw_below_drewN | apply below_drew1 | refine below_set ?_ GE234.out | refine below_set ?_ GE235.out | refine below_set ?_ GE249.out) | exact HB.out))))
                   have n4_ := Cz.bk BK234 hb
                   have n5_ := Cz.bk BK235 hb
                   have n6_ := Cz.bk BK249 hb
                   have n7_ := Cz.bs (w := w) hb
                   clear HO_6
                   clear HO247
                   clear HO253
                   clear BK234
                   clear BK235
                   clear BK249
                   clear HB
                   have HO_6 := n0_
                   have HO247 := n1_
                   have HO253 := n2_
                   have HO256 := n3_
                   have BK234 := n4_
                   have BK235 := n5_
                   have BK249 := n6_
                   have HB := n7_
                   clear n0_ n1_ n2_ n3_ n4_ n5_ n6_ n7_
                   (try clear hb)
                   (try clear hb2)
                   (try clear hk)
                   (try clear hi)
                   (try clear ho0)
                   refine hK.out _ _ ⟨(blk_cell BK234.out 0).trans rfl, (blk_cell BK234.out 1).trans rfl, (blk_cell BK234.out 2).trans rfl, (blk_cell BK234.out 3).trans rfl, (blk_cell BK234.out 4).trans rfl, (blk_cell BK235.out 0).trans rfl, (blk_cell BK235.out 1).trans rfl, (blk_cell BK235.out 2).trans rfl, (blk_cell BK235.out 3).trans rfl, (blk_cell BK235.out 4).trans rfl⟩ (fun hHeld => ?_)
                   clear hK K
                   refine norm_ (a' := ?_) ?_ ?_
                   rotate_left
                   ·show Act.put _ (some 60) _ = _
                    simp only [Act.put, Kx.sb, Kx.sz, Kx.ss, i64_w, i32_w]
                    rfl
                   refine two_ (i := 2) (j := 5) (Ni := some 58) (Nj := some 61) #[true, true, true, true, true, false, false, false] #[true, true, false, true, true, true, false, false] rfl rfl rfl rfl (two_of HT_.out (by kernel_rfl)) (by decide) (by decide) (fun K hK => ?_) (fun K hK => ?_)
                   ·skip
                    have hcv64 := own_string (P := Try.prog) Try.underlying23 Try.underlying5 Try.underlying9 (Kd.own_of_R HO253.out)
                    refine value_ (w1 := ?_) (v := ?_) (by rfl) rfl ?_ ?_
                    rotate_left 2
                    ·go_simp
                     constructor
                     ·rfl
                     ·rfl
                    clear hcv64
                    refine hK.out _ _ ⟨(blk_cell BK234.out 0).trans rfl, (blk_cell BK234.out 1).trans rfl, (blk_cell BK234.out 2).trans rfl, (blk_cell BK234.out 3).trans rfl, (blk_cell BK234.out 4).trans rfl, (blk_cell BK235.out 0).trans rfl, (blk_cell BK235.out 1).trans rfl, (blk_cell BK235.out 2).trans rfl, (blk_cell BK235.out 3).trans rfl, (blk_cell BK235.out 4).trans rfl⟩ (fun hHeld => ?_)
                    clear hK K
                    refine norm_ (a' := ?_) ?_ ?_
                    rotate_left
                    ·show Act.put _ (some 58) _ = _
                     simp only [Act.put, Kx.sb, Kx.sz, Kx.ss, i64_w, i32_w]
                     rfl
                    refine Cz.qO (N := some 61) 5 HT_ (fun K hK => ?_)
                    have hcv65 := own_string (P := Try.prog) Try.underlying23 Try.underlying5 Try.underlying9 (Kd.own_of_R HO256.out)
                    refine value_ (w1 := ?_) (v := ?_) (by rfl) rfl ?_ ?_
                    rotate_left 2
                    ·go_simp
                     constructor
                     ·rfl
                     ·rfl
                    clear hcv65
                    refine hK.out _ _ ⟨(blk_cell BK234.out 0).trans rfl, (blk_cell BK234.out 1).trans rfl, (blk_cell BK234.out 2).trans rfl, (blk_cell BK234.out 3).trans rfl, (blk_cell BK234.out 4).trans rfl, (blk_cell BK235.out 0).trans rfl, (blk_cell BK235.out 1).trans rfl, (blk_cell BK235.out 2).trans rfl, (blk_cell BK235.out 3).trans rfl, (blk_cell BK235.out 4).trans rfl⟩ (fun hHeld => ?_)
                    clear hK K
                    refine norm_ (a' := ?_) ?_ ?_
                    rotate_left
                    ·show Act.put _ (some 61) _ = _
                     simp only [Act.put, Kx.sb, Kx.sz, Kx.ss, i64_w, i32_w]
                     rfl
                    exact norm_ (by simp only [putAll, Act.put, Kx.sb, Kx.sz, Kx.ss]) (hCont (v255) _ ⟨hHeld, (by (with_reducible repeat (first | apply Kd.R_alloc | apply Kd.R_drewN | apply Kd.R_drew)); exact Kd.R_mono HO247.out (fun _ hk => ⟨hk.1.2, ⟨hk.2, hk.1.1.2⟩⟩)), (by (with_reducible repeat (first | apply Kd.R_alloc | apply Kd.R_drewN | apply Kd.R_drew)); exact Kd.R_mono HO253.out (fun _ hk => ⟨hk.1.2, ⟨hk.2, hk.1.1.2⟩⟩)), (by (with_reducible repeat (first | apply Kd.R_alloc | apply Kd.R_drewN | apply Kd.R_drew)); exact Kd.R_mono HO256.out (fun _ hk => ⟨hk.1.2, ⟨hk.2, hk.1.1.2⟩⟩)), (by (with_reducible repeat (first | apply Kd.R_alloc | apply Kd.R_drewN | apply Kd.R_drew)); exact Kd.R_mono HO_6.out (fun _ hk => ⟨hk.1.1.2, ⟨hk.1.2, hk.2⟩⟩)), (by (with_reducible repeat (first | refine blk_drewN ?_ _ | refine blk_drew ?_ | refine blk_alloc ?_ _)); exact BK234.out), (by (with_reducible repeat (first | refine blk_drewN ?_ _ | refine blk_drew ?_ | refine blk_alloc ?_ _)); exact BK235.out), (by (with_reducible repeat (first | refine blk_drewN ?_ _ | refine blk_drew ?_ | refine blk_alloc ?_ _)); exact BK249.out), (by repeat (first | (with_reducible first | exact HB.out | apply below_alloc | apply pw_below_drewN | apply below_drew1 | refine below_set ?_ GE234.out | refine below_set ?_ GE235.out | refine below_set ?_ GE249.out) | exact HB.out))⟩)
                   ·skip
                    have hcv64 := own_string (P := Try.prog) Try.underlying23 Try.underlying5 Try.underlying9 (Kd.own_of_R HO256.out)
                    refine value_ (w1 := ?_) (v := ?_) (by rfl) rfl ?_ ?_
                    rotate_left 2
                    ·go_simp
                     constructor
                     ·rfl
                     ·rfl
                    clear hcv64
                    refine hK.out _ _ ⟨(blk_cell BK234.out 0).trans rfl, (blk_cell BK234.out 1).trans rfl, (blk_cell BK234.out 2).trans rfl, (blk_cell BK234.out 3).trans rfl, (blk_cell BK234.out 4).trans rfl, (blk_cell BK235.out 0).trans rfl, (blk_cell BK235.out 1).trans rfl, (blk_cell BK235.out 2).trans rfl, (blk_cell BK235.out 3).trans rfl, (blk_cell BK235.out 4).trans rfl⟩ (fun hHeld => ?_)
                    clear hK K
                    refine norm_ (a' := ?_) ?_ ?_
                    rotate_left
                    ·show Act.put _ (some 61) _ = _
                     simp only [Act.put, Kx.sb, Kx.sz, Kx.ss, i64_w, i32_w]
                     rfl
                    refine Cz.qO (N := some 58) 2 HT_ (fun K hK => ?_)
                    have hcv65 := own_string (P := Try.prog) Try.underlying23 Try.underlying5 Try.underlying9 (Kd.own_of_R HO253.out)
                    refine value_ (w1 := ?_) (v := ?_) (by rfl) rfl ?_ ?_
                    rotate_left 2
                    ·go_simp
                     constructor
                     ·rfl
                     ·rfl
                    clear hcv65
                    refine hK.out _ _ ⟨(blk_cell BK234.out 0).trans rfl, (blk_cell BK234.out 1).trans rfl, (blk_cell BK234.out 2).trans rfl, (blk_cell BK234.out 3).trans rfl, (blk_cell BK234.out 4).trans rfl, (blk_cell BK235.out 0).trans rfl, (blk_cell BK235.out 1).trans rfl, (blk_cell BK235.out 2).trans rfl, (blk_cell BK235.out 3).trans rfl, (blk_cell BK235.out 4).trans rfl⟩ (fun hHeld => ?_)
                    clear hK K
                    refine norm_ (a' := ?_) ?_ ?_
                    rotate_left
                    ·show Act.put _ (some 58) _ = _
                     simp only [Act.put, Kx.sb, Kx.sz, Kx.ss, i64_w, i32_w]
                     rfl
                    exact norm_ (by simp only [putAll, Act.put, Kx.sb, Kx.sz, Kx.ss]) (hCont (v255) _ ⟨hHeld, (by (with_reducible repeat (first | apply Kd.R_alloc | apply Kd.R_drewN | apply Kd.R_drew)); exact Kd.R_mono HO247.out (fun _ hk => ⟨hk.1.2, ⟨hk.2, hk.1.1.2⟩⟩)), (by (with_reducible repeat (first | apply Kd.R_alloc | apply Kd.R_drewN | apply Kd.R_drew)); exact Kd.R_mono HO253.out (fun _ hk => ⟨hk.1.2, ⟨hk.2, hk.1.1.2⟩⟩)), (by (with_reducible repeat (first | apply Kd.R_alloc | apply Kd.R_drewN | apply Kd.R_drew)); exact Kd.R_mono HO256.out (fun _ hk => ⟨hk.1.2, ⟨hk.2, hk.1.1.2⟩⟩)), (by (with_reducible repeat (first | apply Kd.R_alloc | apply Kd.R_drewN | apply Kd.R_drew)); exact Kd.R_mono HO_6.out (fun _ hk => ⟨hk.1.1.2, ⟨hk.1.2, hk.2⟩⟩)), (by (with_reducible repeat (first | refine blk_drewN ?_ _ | refine blk_drew ?_ | refine blk_alloc ?_ _)); exact BK234.out), (by (with_reducible repeat (first | refine blk_drewN ?_ _ | refine blk_drew ?_ | refine blk_alloc ?_ _)); exact BK235.out), (by (with_reducible repeat (first | refine blk_drewN ?_ _ | refine blk_drew ?_ | refine blk_alloc ?_ _)); exact BK249.out), (by repeat (first | (with_reducible first | exact HB.out | apply below_alloc | apply pw_below_drewN | apply below_drew1 | refine below_set ?_ GE234.out | refine below_set ?_ GE235.out | refine below_set ?_ GE249.out) | exact HB.out))⟩)
                 rintro v255 w66 ⟨hS_, h0_, h1_, h2_, h3_, h4_, h5_, h6_, h7_⟩
                 have n0_ : Aside0 (Kd.R (Kd.int .u8) 5 w66 w.heap.size (fun k_ => some k_ ≠ (v252 : Value).ownBlock ∧ some k_ ≠ (v255 : Value).ownBlock ∧ some k_ ≠ (.slice Ao48 t237.length co48 : Value).ownBlock) (.slice Ao57 t245.length co57) t245) := ⟨h0_⟩
                 have n1_ : Aside0 (Kd.R (Kd.int .u8) 5 w66 w.heap.size (fun k_ => some k_ ≠ (.slice Ao57 t245.length co57 : Value).ownBlock ∧ some k_ ≠ (v255 : Value).ownBlock ∧ some k_ ≠ (.slice Ao48 t237.length co48 : Value).ownBlock) v252 t251) := ⟨h1_⟩
                 have n2_ : Aside0 (Kd.R (Kd.int .u8) 5 w66 w.heap.size (fun k_ => some k_ ≠ (.slice Ao57 t245.length co57 : Value).ownBlock ∧ some k_ ≠ (v252 : Value).ownBlock ∧ some k_ ≠ (.slice Ao48 t237.length co48 : Value).ownBlock) v255 t254) := ⟨h2_⟩
                 have n3_ : Aside0 (Kd.R (Kd.int .u8) 5 w66 w.heap.size (fun k_ => some k_ ≠ (.slice Ao57 t245.length co57 : Value).ownBlock ∧ some k_ ≠ (v252 : Value).ownBlock ∧ some k_ ≠ (v255 : Value).ownBlock) (.slice Ao48 t237.length co48) t237) := ⟨h3_⟩
                 have n4_ : Aside0 (w66.heap[gb234]? = some (.cells #[.int .i64 a0_0, .int .i64 a0_1, .int .i64 a0_2, .int .i64 a0_3, .slice A0_4 l0_4.length c0_4] 46 (0, 0))) := ⟨h4_⟩
                 have n5_ : Aside0 (w66.heap[gb235]? = some (.cells #[.int .i64 a1_0, .int .i64 a1_1, .int .i64 a1_2, .int .i64 a1_3, .slice A1_4 l1_4.length c1_4] 46 (0, 0))) := ⟨h5_⟩
                 have n6_ : Aside0 (w66.heap[gb249]? = some (.cells #[.int .i64 t241, .int .i64 t242, .int .i64 t243, .int .i64 t244, .slice Ao57 t245.length co57] 46 (0, 0))) := ⟨h6_⟩
                 have n7_ : Aside0 (Below w.heap.size w w66) := ⟨h7_⟩
                 clear HO_6
                 clear HO247
                 clear BK234
                 clear BK235
                 clear BK249
                 clear HB
                 clear h0_ h1_ h2_ h3_ h4_ h5_ h6_ h7_
                 have HO247 := n0_
                 have HO253 := n1_
                 have HO256 := n2_
                 have HO_6 := n3_
                 have BK234 := n4_
                 have BK235 := n5_
                 have BK249 := n6_
                 have HB := n7_
                 clear n0_ n1_ n2_ n3_ n4_ n5_ n6_ n7_
                 have hHeld : w66.cell? ⟨gb234, 0, none⟩ = some (.int .i64 a0_0) ∧ w66.cell? ⟨gb234, 1, none⟩ = some (.int .i64 a0_1) ∧ w66.cell? ⟨gb234, 2, none⟩ = some (.int .i64 a0_2) ∧ w66.cell? ⟨gb234, 3, none⟩ = some (.int .i64 a0_3) ∧ w66.cell? ⟨gb234, 4, none⟩ = some (.slice A0_4 l0_4.length c0_4) ∧ w66.cell? ⟨gb235, 0, none⟩ = some (.int .i64 a1_0) ∧ w66.cell? ⟨gb235, 1, none⟩ = some (.int .i64 a1_1) ∧ w66.cell? ⟨gb235, 2, none⟩ = some (.int .i64 a1_2) ∧ w66.cell? ⟨gb235, 3, none⟩ = some (.int .i64 a1_3) ∧ w66.cell? ⟨gb235, 4, none⟩ = some (.slice A1_4 l1_4.length c1_4) := hS_
                 refine norm_ (a' := ?_) ?_ ?_
                 rotate_left
                 ·simp only [putAll, Act.put, Kx.sb, Kx.sz, Kx.ss]
                  rfl
                 refine Cz.qP 6 62 HT_ ?_
                 refine Cz.qP 7 10 HT_ ?_
                 refine done_ (done_of HT_.out (by kernel_rfl)) ?_
                 obtain ⟨hcz67_0, hcz67_1, hcz67_2, hcz67_3, hcz67_4, hfz67_0, hfz67_1, hfz67_2, hfz67_3, hfz67_4⟩ := Cz.d5 BK234
                 obtain ⟨hcz68_0, hcz68_1, hcz68_2, hcz68_3, hcz68_4, hfz68_0, hfz68_1, hfz68_2, hfz68_3, hfz68_4⟩ := Cz.d5 BK235
                 obtain ⟨hcz69_0, hcz69_1, hcz69_2, hcz69_3, hcz69_4, hfz69_0, hfz69_1, hfz69_2, hfz69_3, hfz69_4⟩ := Cz.d5 BK249
                 try go_wp2_with (first | (go_at_call 40; (with_reducible refine (extent_Bytes.calls t241 t242 t243 t244 _ _ t245 t257 _ ?side1 ?side2 A45.out).mono ?_); (case side1 => repeat (first | exact (Kd.R_reads' HO247.out).2.2 | (with_reducible refine Kd.C_alloc ?_ _) | (with_reducible refine Kd.C_drewN ?_ _) | (with_reducible refine Kd.C_drew ?_))); (case side2 => exact (Kd.R_reads' HO247.out).2.1); rintro e w70 ⟨v258, rfl, ho0, hb⟩; have n0_ := Aside0.mk (Kd.R_elder' (by (with_reducible repeat (first | apply Kd.R_alloc | apply Kd.R_drewN | apply Kd.R_drew)); exact HO_6.out) (Kd.R_base ho0) hb); have n1_ := Aside0.mk (Kd.R_elder' (by (with_reducible repeat (first | apply Kd.R_alloc | apply Kd.R_drewN | apply Kd.R_drew)); exact HO247.out) (Kd.R_base ho0) hb); have n2_ := Aside0.mk (Kd.R_elder' (by (with_reducible repeat (first | apply Kd.R_alloc | apply Kd.R_drewN | apply Kd.R_drew)); exact HO253.out) (Kd.R_base ho0) hb); have n3_ := Aside0.mk (Kd.R_elder' (by (with_reducible repeat (first | apply Kd.R_alloc | apply Kd.R_drewN | apply Kd.R_drew)); exact HO256.out) (Kd.R_base ho0) hb); have n4_ := Aside0.mk (Kd.R_lower (Kd.R_new' (Kd.R_new' (Kd.R_new' (Kd.R_new' ho0 (Kd.R_lt (by (with_reducible repeat (first | apply Kd.R_alloc | apply Kd.R_drewN | apply Kd.R_drew)); exact HO_6.out))) (Kd.R_lt (by (with_reducible repeat (first | apply Kd.R_alloc | apply Kd.R_drewN | apply Kd.R_drew)); exact HO247.out))) (Kd.R_lt (by (with_reducible repeat (first | apply Kd.R_alloc | apply Kd.R_drewN | apply Kd.R_drew)); exact HO253.out))) (Kd.R_lt (by (with_reducible repeat (first | apply Kd.R_alloc | apply Kd.R_drewN | apply Kd.R_drew)); exact HO256.out))) (below_size (by repeat (first | (with_reducible first | exact HB.out | apply below_alloc | apply pw_below_drewN | apply below_drew1 | refine below_set ?_ GE234.out | refine below_set ?_ GE235.out | refine below_set ?_ GE249.out) | exact HB.out)))); have n5_ := Cz.bk BK234 hb; have n6_ := Cz.bk BK235 hb; have n7_ := Cz.bk BK249 hb; have n8_ := Cz.bs (w := w) hb; clear HO_6; clear HO247; clear HO253; clear HO256; clear BK234; clear BK235; clear BK249; clear HB; have HO_6 := n0_; have HO247 := n1_; have HO253 := n2_; have HO256 := n3_; have HO259 := n4_; have BK234 := n5_; have BK235 := n6_; have BK249 := n7_; have HB := n8_; clear n0_ n1_ n2_ n3_ n4_ n5_ n6_ n7_ n8_; (try clear hb); (try clear hb2); (try clear hk); (try clear hi); (try clear ho0); have hcv71 := own_string (P := Try.prog) Try.underlying23 Try.underlying5 Try.underlying9 (Kd.own_of_R HO259.out); (try have hcvd72 := fun (n_ : Nat) => own_string (P := Try.prog) Try.underlying23 Try.underlying5 Try.underlying9 (Kd.own_of_R (Kd.R_drewN HO259.out n_))); obtain ⟨hcz73_0, hcz73_1, hcz73_2, hcz73_3, hcz73_4, hfz73_0, hfz73_1, hfz73_2, hfz73_3, hfz73_4⟩ := Cz.d5 BK235; obtain ⟨hcz74_0, hcz74_1, hcz74_2, hcz74_3, hcz74_4, hfz74_0, hfz74_1, hfz74_2, hfz74_3, hfz74_4⟩ := Cz.d5 BK234) | (go_at_call 42; (with_reducible refine (extent_Joins.calls a1_0 a1_1 a1_2 a1_3 _ _ l1_4 a0_0 a0_1 a0_2 a0_3 _ _ l0_4 t260 _ ?side1 ?side2 ?side3 ?side4 A47.out).mono ?_); (case side1 => exact Cz.cb HR1_4); (case side2 => exact HC1_4.out); (case side3 => exact Cz.cb HR0_4); (case side4 => exact HC0_4.out); rintro e w75 ⟨rfl, hb⟩; have n0_ := Cz.rb HO_6 hb; have n1_ := Cz.rb HO247 hb; have n2_ := Cz.rb HO253 hb; have n3_ := Cz.rb HO256 hb; have n4_ := Cz.rb HO259 hb; have n5_ := Cz.bk BK234 hb; have n6_ := Cz.bk BK235 hb; have n7_ := Cz.bk BK249 hb; have n8_ := Cz.bs (w := w) hb; clear HO_6; clear HO247; clear HO253; clear HO256; clear HO259; clear BK234; clear BK235; clear BK249; clear HB; have HO_6 := n0_; have HO247 := n1_; have HO253 := n2_; have HO256 := n3_; have HO259 := n4_; have BK234 := n5_; have BK235 := n6_; have BK249 := n7_; have HB := n8_; clear n0_ n1_ n2_ n3_ n4_ n5_ n6_ n7_ n8_; (try clear hb); (try clear hb2); (try clear hk); (try clear hi)))
                 go_ret
                 exact ⟨by first | rfl | (exact congrArg (fun z_ => Ending.returned (Value.bool z_)) HRT.out) | (rw [HRT.out]; done) | (simp [errW_none, errW_some] <;> rfl) | (simp [*, errW_none, errW_some] <;> rfl), by repeat (first | (with_reducible first | exact HB.out | apply below_alloc | apply pw_below_drewN | apply below_drew1 | refine below_set ?_ GE234.out | refine below_set ?_ GE235.out | refine below_set ?_ GE249.out) | exact HB.out)⟩
                ·rw [if_neg c46] at H
                 first | exact absurd H (by simp; done) | skip
               ·rw [if_neg c44] at H
                first | exact absurd H (by simp; done) | skip
              ·rw [if_neg c43] at H
               first | exact absurd H (by simp; done) | skip
             ·rw [if_neg c42] at H
              first | exact absurd H (by simp; done) | skip
            ·rw [if_neg c41] at H
             first | exact absurd H (by simp; done) | skip
           ·rw [if_neg c40] at H
            first | exact absurd H (by simp; done) | skip
          ·rw [if_neg c39] at H
           first | exact absurd H (by simp; done) | skip
         ·replace c38 := Bool.eq_false_iff.mpr c38
          subst c38
          have H1 : (some false) = some true := by rw [if_neg (show ¬ (false = true) by decide)] at H <;> exact H
          exact absurd H1 (by simp)
        ·rw [if_neg c37] at H
         exact absurd H (by simp)
       ·replace c34 := Bool.eq_false_iff.mpr c34
        subst c34
        rw [if_neg (show ¬ (false = true) by decide)] at H
        by_cases c246 : t236 = true
        ·subst c246
         rw [if_pos rfl] at H
         (have HRT := Aside0.mk (Option.some.inj H); clear H)
         obtain ⟨Ao247, co247, eo247⟩ := Kd.R_slice HO_6.out
         subst eo247
         have hnb248 := NB234_235.out
         have hnc248 := NB235_234.out
         obtain ⟨hcz249_0, hcz249_1, hcz249_2, hcz249_3, hcz249_4, hfz249_0, hfz249_1, hfz249_2, hfz249_3, hfz249_4⟩ := Cz.d5 BK234
         obtain ⟨hcz250_0, hcz250_1, hcz250_2, hcz250_3, hcz250_4, hfz250_0, hfz250_1, hfz250_2, hfz250_3, hfz250_4⟩ := Cz.d5 BK235
         go_wp2_with (first | ((with_reducible refine gate_callee (f := 35) rfl ?_); refine Cz.gL (N := (some 44)) Try.func35 #[.agg #[.int .i64 a0_0, .int .i64 a0_1, .int .i64 a0_2, .int .i64 a0_3, .slice A0_4 l0_4.length c0_4], .agg #[.int .i64 a1_0, .int .i64 a1_1, .int .i64 a1_2, .int .i64 a1_3, .slice A1_4 l1_4.length c1_4]] ?_; (with_reducible refine (extent_Join.calls a0_0 a0_1 a0_2 a0_3 _ _ l0_4 a1_0 a1_1 a1_2 a1_3 _ _ l1_4 t241 t242 t243 t244 t245 t248 _ ?side1 ?side2 ?side3 ?side4 A32.out).mono ?_); (case side1 => exact Cz.cb HR0_4); (case side2 => exact HC0_4.out); (case side3 => exact Cz.cb HR1_4); (case side4 => exact HC1_4.out); rintro e w251 ⟨v246, rfl, ho0, hb⟩; refine ⟨_, rfl, ?_⟩; have n0_ := Aside0.mk (Kd.R_elder' (by (with_reducible repeat (first | apply Kd.R_alloc | apply Kd.R_drewN | apply Kd.R_drew)); exact HO_6.out) (Kd.R_base ho0) hb); have n1_ := Aside0.mk (Kd.R_lower (Kd.R_new' ho0 (Kd.R_lt (by (with_reducible repeat (first | apply Kd.R_alloc | apply Kd.R_drewN | apply Kd.R_drew)); exact HO_6.out))) (below_size (by repeat (first | (with_reducible first | exact HB.out | apply below_alloc | apply pw_below_drewN | apply below_drew1 | refine below_set ?_ GE234.out | refine below_set ?_ GE235.out) | exact HB.out)))); have n2_ := Cz.bk BK234 hb; have n3_ := Cz.bk BK235 hb; have n4_ := Cz.bs (w := w) hb; clear HO_6; clear BK234; clear BK235; clear HB; have HO_6 := n0_; have HO247 := n1_; have BK234 := n2_; have BK235 := n3_; have HB := n4_; clear n0_ n1_ n2_ n3_ n4_; (try clear hb); (try clear hb2); (try clear hk); (try clear hi); (try clear ho0)) | ((with_reducible refine gate_dst (N := 8) rfl ?_); (try (refine gate_guard (by rfl) ?_; dsimp only)); refine box_event ?hg (N := 8) ?hd (cs := #[.int .i64 0, .int .i64 0, .int .i64 0, .int .i64 0, .slice none 0 0]) (t := 46) ?hr ?_; (case hd => rfl); (case hg => rfl); (case hr => first | (go_simp; done) | (go_simp; rfl)); intro gb249 hg w252 hbox hb; have n0_ := Cz.rb HO_6 hb; have n1_ := Cz.rb HO247 hb; have n2_ := Cz.bk BK234 hb; have n3_ := Cz.bk BK235 hb; have n4_ := Cz.bs (w := w) hb; have n5_ := Aside0.mk (hbox); have n6_ := Aside0.mk ((Cz.gs hg : w.heap.size ≤ gb249)); have n7_ := Aside0.mk ((Cz.gs hg : w.heap.size ≤ gb249)); have n8_ := Aside0.mk ((Cz.nl BK234 hg : gb234 ≠ gb249)); have n9_ := Aside0.mk ((Cz.nr BK234 hg : gb249 ≠ gb234)); have n10_ := Aside0.mk ((Cz.nl BK235 hg : gb235 ≠ gb249)); have n11_ := Aside0.mk ((Cz.nr BK235 hg : gb249 ≠ gb235)); clear HO_6; clear HO247; clear BK234; clear BK235; clear HB; have HO_6 := n0_; have HO247 := n1_; have BK234 := n2_; have BK235 := n3_; have HB := n4_; have BK249 := n5_; have GW249 := n6_; have GE249 := n7_; have NB234_249 := n8_; have NB249_234 := n9_; have NB235_249 := n10_; have NB249_235 := n11_; clear n0_ n1_ n2_ n3_ n4_ n5_ n6_ n7_ n8_ n9_ n10_ n11_; clear hb hbox hg; have hnb253 := NB249_234.out; have hnc253 := NB234_249.out; have hnb254 := NB249_235.out; have hnc254 := NB235_249.out; obtain ⟨hcz255_0, hcz255_1, hcz255_2, hcz255_3, hcz255_4, hfz255_0, hfz255_1, hfz255_2, hfz255_3, hfz255_4⟩ := Cz.d5 BK249; obtain ⟨Ao256, co256, eo256⟩ := Kd.R_slice HO247.out; subst eo256; obtain ⟨hcz257_0, hcz257_1, hcz257_2, hcz257_3, hcz257_4, hfz257_0, hfz257_1, hfz257_2, hfz257_3, hfz257_4⟩ := Cz.d5 BK234; obtain ⟨hcz258_0, hcz258_1, hcz258_2, hcz258_3, hcz258_4, hfz258_0, hfz258_1, hfz258_2, hfz258_3, hfz258_4⟩ := Cz.d5 BK235) | ((with_reducible refine gate_callee (f := 42) rfl ?_); refine Cz.gL (N := (some 49)) Try.func42 #[.agg #[.int .i64 a0_0, .int .i64 a0_1, .int .i64 a0_2, .int .i64 a0_3, .slice A0_4 l0_4.length c0_4], .agg #[.int .i64 a1_0, .int .i64 a1_1, .int .i64 a1_2, .int .i64 a1_3, .slice A1_4 l1_4.length c1_4]] ?_; (with_reducible refine (extent_Joins.calls a0_0 a0_1 a0_2 a0_3 _ _ l0_4 a1_0 a1_1 a1_2 a1_3 _ _ l1_4 false _ ?side1 ?side2 ?side3 ?side4 A33.out).mono ?_); (case side1 => exact Kd.C_below HR0_4.out (by repeat (first | (with_reducible first | exact HB.out | apply below_alloc | apply pw_below_drewN | apply below_drew1 | refine below_set ?_ GE234.out | refine below_set ?_ GE235.out | refine below_set ?_ GE249.out) | exact HB.out))); (case side2 => exact HC0_4.out); (case side3 => exact Kd.C_below HR1_4.out (by repeat (first | (with_reducible first | exact HB.out | apply below_alloc | apply pw_below_drewN | apply below_drew1 | refine below_set ?_ GE234.out | refine below_set ?_ GE235.out | refine below_set ?_ GE249.out) | exact HB.out))); (case side4 => exact HC1_4.out); rintro e w259 ⟨rfl, hb⟩; refine ⟨_, rfl, ?_⟩; have n0_ := Aside0.mk (Kd.R_below (by (with_reducible repeat (first | apply Kd.R_alloc | apply Kd.R_drewN | apply Kd.R_drew)); exact (Kd.R_mono (Kd.R_far (p := ⟨gb249, 4, none⟩) (Kd.R_far (p := ⟨gb249, 3, none⟩) (Kd.R_far (p := ⟨gb249, 2, none⟩) (Kd.R_far (p := ⟨gb249, 1, none⟩) (Kd.R_far (p := ⟨gb249, 0, none⟩) (Kd.R_types HO_6.out BK249.out (by decide)) (fun _ hk => hk.2) (.int .i64 t241)) (fun _ hk => hk.2) (.int .i64 t242)) (fun _ hk => hk.2) (.int .i64 t243)) (fun _ hk => hk.2) (.int .i64 t244)) (fun _ hk => hk.2) (.slice Ao256 t245.length co256)) (fun _ h_ => h_.1))) hb); have n1_ := Aside0.mk (Kd.R_below (by (with_reducible repeat (first | apply Kd.R_alloc | apply Kd.R_drewN | apply Kd.R_drew)); exact (Kd.R_mono (Kd.R_far (p := ⟨gb249, 4, none⟩) (Kd.R_far (p := ⟨gb249, 3, none⟩) (Kd.R_far (p := ⟨gb249, 2, none⟩) (Kd.R_far (p := ⟨gb249, 1, none⟩) (Kd.R_far (p := ⟨gb249, 0, none⟩) (Kd.R_types HO247.out BK249.out (by decide)) (fun _ hk => hk.2) (.int .i64 t241)) (fun _ hk => hk.2) (.int .i64 t242)) (fun _ hk => hk.2) (.int .i64 t243)) (fun _ hk => hk.2) (.int .i64 t244)) (fun _ hk => hk.2) (.slice Ao256 t245.length co256)) (fun _ h_ => h_.1))) hb); have n2_ := Aside0.mk (blk_below (g := gb234) (o := .cells #[.int .i64 a0_0, .int .i64 a0_1, .int .i64 a0_2, .int .i64 a0_3, .slice A0_4 l0_4.length c0_4] 46 (0, 0)) (by (with_reducible repeat (first | refine blk_drewN ?_ _ | refine blk_drew ?_ | refine blk_alloc ?_ _)); refine blk_far ?_ NB234_249.out _; refine blk_far ?_ NB234_249.out _; refine blk_far ?_ NB234_249.out _; refine blk_far ?_ NB234_249.out _; refine blk_far ?_ NB234_249.out _; (with_reducible repeat (first | refine blk_drewN ?_ _ | refine blk_drew ?_ | refine blk_alloc ?_ _)); exact BK234.out) hb); have n3_ := Aside0.mk (blk_below (g := gb235) (o := .cells #[.int .i64 a1_0, .int .i64 a1_1, .int .i64 a1_2, .int .i64 a1_3, .slice A1_4 l1_4.length c1_4] 46 (0, 0)) (by (with_reducible repeat (first | refine blk_drewN ?_ _ | refine blk_drew ?_ | refine blk_alloc ?_ _)); refine blk_far ?_ NB235_249.out _; refine blk_far ?_ NB235_249.out _; refine blk_far ?_ NB235_249.out _; refine blk_far ?_ NB235_249.out _; refine blk_far ?_ NB235_249.out _; (with_reducible repeat (first | refine blk_drewN ?_ _ | refine blk_drew ?_ | refine blk_alloc ?_ _)); exact BK235.out) hb); have n4_ := Aside0.mk (blk_below (g := gb249) (o := .cells #[.int .i64 t241, .int .i64 t242, .int .i64 t243, .int .i64 t244, .slice Ao256 t245.length co256] 46 (0, 0)) (by (with_reducible repeat (first | refine blk_drewN ?_ _ | refine blk_drew ?_ | refine blk_alloc ?_ _)); refine blk_put (cs := #[.int .i64 t241, .int .i64 t242, .int .i64 t243, .int .i64 t244, .slice none 0 0]) ?_ 4 _ rfl; refine blk_put (cs := #[.int .i64 t241, .int .i64 t242, .int .i64 t243, .int .i64 0, .slice none 0 0]) ?_ 3 _ rfl; refine blk_put (cs := #[.int .i64 t241, .int .i64 t242, .int .i64 0, .int .i64 0, .slice none 0 0]) ?_ 2 _ rfl; refine blk_put (cs := #[.int .i64 t241, .int .i64 0, .int .i64 0, .int .i64 0, .slice none 0 0]) ?_ 1 _ rfl; refine blk_put (cs := #[.int .i64 0, .int .i64 0, .int .i64 0, .int .i64 0, .slice none 0 0]) ?_ 0 _ rfl; (with_reducible repeat (first | refine blk_drewN ?_ _ | refine blk_drew ?_ | refine blk_alloc ?_ _)); exact BK249.out) hb); have n5_ := Cz.bs (w := w) hb; clear HO_6; clear HO247; clear BK234; clear BK235; clear BK249; clear HB; have HO_6 := n0_; have HO247 := n1_; have BK234 := n2_; have BK235 := n3_; have BK249 := n4_; have HB := n5_; clear n0_ n1_ n2_ n3_ n4_ n5_; (try clear hb); (try clear hb2); (try clear hk); (try clear hi)))
         go_ret
         exact ⟨by first | rfl | (exact congrArg (fun z_ => Ending.returned (Value.bool z_)) HRT.out) | (rw [HRT.out]; done) | (simp [errW_none, errW_some] <;> rfl) | (simp [*, errW_none, errW_some] <;> rfl), by repeat (first | (with_reducible first | exact HB.out | apply below_alloc | apply pw_below_drewN | apply below_drew1 | refine below_set ?_ GE234.out | refine below_set ?_ GE235.out | refine below_set ?_ GE249.out) | exact HB.out)⟩
        ·replace c246 := Bool.eq_false_iff.mpr c246
         subst c246
         have H1 : (some false) = some true := by rw [if_neg (show ¬ (false = true) by decide)] at H <;> exact H
         exact absurd H1 (by simp)
end Go.Proofs.Ytcemlfkboifncaa.PL
