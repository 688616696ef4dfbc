/- Functions of the program as Lean functions, and that the Go code comes to just their answers: no condition but that the function says so. (Written by a program of this workplace over the kit's print, with contracts by hand.) -/
import Derived.Test.YtcemlfkboifncaaCz
import Derived.Test.YtcemlfkboifncaaPKx14
import Derived.Test.YtcemlfkboifncaaPKx19
import Derived.Test.YtcemlfkboifncaaPKx35
namespace Go.Proofs.Ytcemlfkboifncaa.PK
open Go.Proofs.Ytcemlfkboifncaa Go.RowKit Go.Proofs.YtcemlfkboifncaaW.PrintWords Go.Proofs.YtcemlfkboifncaaW.PrintLast Go.Proofs.YtcemlfkboifncaaW.PrintMore
attribute [local go_sem] max2_int min2_int max_two min_two max_three min_three max_four min_four   -- for this text's walks alone
set_option linter.unusedVariables false
set_option linter.unusedSimpArgs false

/-! ### waggonerlaw07_ExtentCuts: function 15 -/
mutual
def waggonerlaw07_ExtentCuts.j0 : Nat → Int → Int → Bool → Bool → Int → Int → Int → Int → List Int → Option (Bool)
 | 0, _, _, _, _, _, _, _, _, _ => none
 | k + 1, x1, x2, x7, x24, x235000, x235001, x235002, x235003, x235004 => if x24 = true then (some x7) else ((extent_Cut.f x235000 x235001 x235002 x235003 x235004 0 64).bind fun bt237 => ((extent_Cut.f x235000 x235001 x235002 x235003 x235004 x1 x2).bind fun bt246 => ((extent_Bytes.f x235000 x235001 x235002 x235003 x235004).bind fun t255 => ((extent_Bytes.f bt246.1 bt246.2.1 bt246.2.2.1 bt246.2.2.2.1 bt246.2.2.2.2.1).bind fun t258 => (if bt237.2.2.2.2.2 = true then (if bt237.1 = x235000 then (if bt237.2.1 = x235001 then (if bt237.2.2.1 = x235002 then (if bt237.2.2.2.1 = x235003 then (if (strOfNums bt237.2.2.2.2.1).toList = (strOfNums x235004).toList then (waggonerlaw07_ExtentCuts.j1 k x1 x2 x7 bt246.2.2.2.2.2 t255 t258 ((t255.length : Int) != (wrap64 (32 * x235001))) x235000 x235001 x235002 x235003 x235004 bt246.1 bt246.2.1 bt246.2.2.1 bt246.2.2.2.1 bt246.2.2.2.2.1) else (waggonerlaw07_ExtentCuts.j1 k x1 x2 x7 bt246.2.2.2.2.2 t255 t258 true x235000 x235001 x235002 x235003 x235004 bt246.1 bt246.2.1 bt246.2.2.1 bt246.2.2.2.1 bt246.2.2.2.2.1)) else (waggonerlaw07_ExtentCuts.j1 k x1 x2 x7 bt246.2.2.2.2.2 t255 t258 true x235000 x235001 x235002 x235003 x235004 bt246.1 bt246.2.1 bt246.2.2.1 bt246.2.2.2.1 bt246.2.2.2.2.1)) else (waggonerlaw07_ExtentCuts.j1 k x1 x2 x7 bt246.2.2.2.2.2 t255 t258 true x235000 x235001 x235002 x235003 x235004 bt246.1 bt246.2.1 bt246.2.2.1 bt246.2.2.2.1 bt246.2.2.2.2.1)) else (waggonerlaw07_ExtentCuts.j1 k x1 x2 x7 bt246.2.2.2.2.2 t255 t258 true x235000 x235001 x235002 x235003 x235004 bt246.1 bt246.2.1 bt246.2.2.1 bt246.2.2.2.1 bt246.2.2.2.2.1)) else (waggonerlaw07_ExtentCuts.j1 k x1 x2 x7 bt246.2.2.2.2.2 t255 t258 true x235000 x235001 x235002 x235003 x235004 bt246.1 bt246.2.1 bt246.2.2.1 bt246.2.2.2.1 bt246.2.2.2.2.1)) else (waggonerlaw07_ExtentCuts.j1 k x1 x2 x7 bt246.2.2.2.2.2 t255 t258 true x235000 x235001 x235002 x235003 x235004 bt246.1 bt246.2.1 bt246.2.2.1 bt246.2.2.2.1 bt246.2.2.2.2.1))))))
def waggonerlaw07_ExtentCuts.j1 : Nat → Int → Int → Bool → Bool → List Int → List Int → Bool → Int → Int → Int → Int → List Int → Int → Int → Int → Int → List Int → Option (Bool)
 | 0, _, _, _, _, _, _, _, _, _, _, _, _, _, _, _, _, _ => none
 | k + 1, x1, x2, x7, x11, x12, x13, x88, x235000, x235001, x235002, x235003, x235004, x255000, x255001, x255002, x255003, x255004 => if x88 = true then (some false) else (if x11 = true then (if (wrap64 (32 * (wrap64 (x255000 - x235000)))) < 0 then (some false) else (if (wrap64 ((wrap64 (32 * (wrap64 (x255000 - x235000)))) + (x13.length : Int))) > (x12.length : Int) then (some false) else (if (x13.length : Int) = (wrap64 (32 * x255001)) then (if x7 = true then (if x255000 ≥ x1 then (if (wrap64 (x255000 + x255001)) ≤ (wrap64 (x1 + x2)) then (if 0 ≤ (wrap64 (32 * (wrap64 (x255000 - x235000)))) then (if (wrap64 (32 * (wrap64 (x255000 - x235000)))) ≤ (wrap64 ((wrap64 (32 * (wrap64 (x255000 - x235000)))) + (x13.length : Int))) then (if (wrap64 ((wrap64 (32 * (wrap64 (x255000 - x235000)))) + (x13.length : Int))) ≤ (x12.length : Int) then (if (strOfNums x13).toList = (strOfNums ((x12.take ((wrap64 ((wrap64 (32 * (wrap64 (x255000 - x235000)))) + (x13.length : Int))) : Int).toNat).drop ((wrap64 (32 * (wrap64 (x255000 - x235000)))) : Int).toNat)).toList then (if x255002 = x235002 then (some (x255003 == x235003)) else (some false)) else (some false)) else (none)) else (none)) else (none)) else (some false)) else (some false)) else (some false)) else (some false)))) else (if x7 = true then (some ((x13.length : Int) == 0)) else (some false)))
end
def waggonerlaw07_ExtentCuts.f (k : Nat) (a0_0 : Int) (a0_1 : Int) (a0_2 : Int) (a0_3 : Int) (l0_4 : List Int) (a1 : Int) (a2 : Int) : Option (Bool) := (waggonerlaw07_awake.f).bind fun t235 => (if (l0_4.length : Int) > 3000 then (waggonerlaw07_ExtentCuts.j0 k a1 a2 t235 true a0_0 a0_1 a0_2 a0_3 l0_4) else ((extent_Check.f a0_0 a0_1 a0_2 a0_3 l0_4).bind fun t236 => (waggonerlaw07_ExtentCuts.j0 k a1 a2 t235 (!t236) a0_0 a0_1 a0_2 a0_3 l0_4)))
theorem waggonerlaw07_ExtentCuts.mono_l : ∀ k, (∀ y0 y1 y2 y3 y4 y5 y6 y7 y8, LeO (waggonerlaw07_ExtentCuts.j0 k y0 y1 y2 y3 y4 y5 y6 y7 y8) (waggonerlaw07_ExtentCuts.j0 (k + 1) y0 y1 y2 y3 y4 y5 y6 y7 y8)) ∧ (∀ y0 y1 y2 y3 y4 y5 y6 y7 y8 y9 y10 y11 y12 y13 y14 y15 y16, LeO (waggonerlaw07_ExtentCuts.j1 k y0 y1 y2 y3 y4 y5 y6 y7 y8 y9 y10 y11 y12 y13 y14 y15 y16) (waggonerlaw07_ExtentCuts.j1 (k + 1) y0 y1 y2 y3 y4 y5 y6 y7 y8 y9 y10 y11 y12 y13 y14 y15 y16))
 | 0 => ⟨fun _ _ _ _ _ _ _ _ _ r h => by simp [waggonerlaw07_ExtentCuts.j0] at h, fun _ _ _ _ _ _ _ _ _ _ _ _ _ _ _ _ _ r h => by simp [waggonerlaw07_ExtentCuts.j1] at h⟩
 | k + 1 => by
  obtain ⟨ih0, ih1⟩ := waggonerlaw07_ExtentCuts.mono_l k
  refine ⟨?_, ?_⟩
  ·intro y0 y1 y2 y3 y4 y5 y6 y7 y8
   unfold waggonerlaw07_ExtentCuts.j0
   repeat' first
   | (with_reducible exact ih0 _ _ _ _ _ _ _ _ _)
   | (with_reducible exact ih1 _ _ _ _ _ _ _ _ _ _ _ _ _ _ _ _ _)
   | (with_reducible exact LeO.refl _)
   | (with_reducible exact LeO.none _)
   | (with_reducible refine LeO.ite ?_ ?_)
   | (with_reducible refine LeO.bind ?_ (fun _ => ?_))
   | exact ih0 _ _ _ _ _ _ _ _ _
   | exact ih1 _ _ _ _ _ _ _ _ _ _ _ _ _ _ _ _ _
   | exact LeO.none _
   | refine LeO.ite ?_ ?_
   | refine LeO.bind ?_ (fun _ => ?_)
  ·intro y0 y1 y2 y3 y4 y5 y6 y7 y8 y9 y10 y11 y12 y13 y14 y15 y16
   unfold waggonerlaw07_ExtentCuts.j1
   repeat' first
   | (with_reducible exact ih0 _ _ _ _ _ _ _ _ _)
   | (with_reducible exact ih1 _ _ _ _ _ _ _ _ _ _ _ _ _ _ _ _ _)
   | (with_reducible exact LeO.refl _)
   | (with_reducible exact LeO.none _)
   | (with_reducible refine LeO.ite ?_ ?_)
   | (with_reducible refine LeO.bind ?_ (fun _ => ?_))
   | exact ih0 _ _ _ _ _ _ _ _ _
   | exact ih1 _ _ _ _ _ _ _ _ _ _ _ _ _ _ _ _ _
   | exact LeO.none _
   | refine LeO.ite ?_ ?_
   | refine LeO.bind ?_ (fun _ => ?_)
theorem waggonerlaw07_ExtentCuts.mono : ∀ a0 a1 a2 a3 a4 a5 a6 k, LeO (waggonerlaw07_ExtentCuts.f k a0 a1 a2 a3 a4 a5 a6) (waggonerlaw07_ExtentCuts.f (k + 1) a0 a1 a2 a3 a4 a5 a6) := by
 intro a0 a1 a2 a3 a4 a5 a6 k
 obtain ⟨ih0, ih1⟩ := waggonerlaw07_ExtentCuts.mono_l k
 unfold waggonerlaw07_ExtentCuts.f
 repeat' first
   | (with_reducible exact ih0 _ _ _ _ _ _ _ _ _)
   | (with_reducible exact ih1 _ _ _ _ _ _ _ _ _ _ _ _ _ _ _ _ _)
   | (with_reducible exact LeO.refl _)
   | (with_reducible exact LeO.none _)
   | (with_reducible refine LeO.ite ?_ ?_)
   | (with_reducible refine LeO.bind ?_ (fun _ => ?_))
   | exact ih0 _ _ _ _ _ _ _ _ _
   | exact ih1 _ _ _ _ _ _ _ _ _ _ _ _ _ _ _ _ _
   | exact LeO.none _
   | refine LeO.ite ?_ ?_
   | refine LeO.bind ?_ (fun _ => ?_)
set_option maxHeartbeats 8000000 in
set_option maxRecDepth 100000 in
theorem waggonerlaw07_ExtentCuts.calls (k : Nat) (a0_0 : Int) (a0_1 : Int) (a0_2 : Int) (a0_3 : Int) (A0_4 : Option Addr) (c0_4 : Nat) (l0_4 : List Int) (a1 : Int) (a2 : Int) (r : Bool) (hT : r = true) (w : World) (hr0_4 : Kd.C (Kd.int .u8) w A0_4 l0_4.length l0_4) (hc0_4 : l0_4.length ≤ c0_4) (h : waggonerlaw07_ExtentCuts.f k a0_0 a0_1 a0_2 a0_3 l0_4 a1 a2 = some r) :
  Calls Try.prog 15 #[.agg #[.int .i64 a0_0, .int .i64 a0_1, .int .i64 a0_2, .int .i64 a0_3, .slice A0_4 l0_4.length c0_4], .int .i64 a1, .int .i64 a2] w fun e w' => e = .returned (.bool r) ∧ Below w.heap.size w w' := by
 subst hT
 have hu46 := Try.underlying46
 have HR0_4 := Aside0.mk hr0_4
 have HC0_4 := Aside0.mk hc0_4
 clear hr0_4 hc0_4
 have HB := Aside0.mk (Below.refl w.heap.size w)
 have H : ((waggonerlaw07_awake.f).bind fun t235 => (if (l0_4.length : Int) > 3000 then (waggonerlaw07_ExtentCuts.j0 k a1 a2 t235 true a0_0 a0_1 a0_2 a0_3 l0_4) else ((extent_Check.f a0_0 a0_1 a0_2 a0_3 l0_4).bind fun t236 => (waggonerlaw07_ExtentCuts.j0 k a1 a2 t235 (!t236) a0_0 a0_1 a0_2 a0_3 l0_4)))) = some true := h
 clear h
 replace H := Option.bind_eq_some_iff.mp H
 obtain ⟨t235, A40, H⟩ := H
 (try dsimp only at H)
 have A4 := Aside0.mk A40
 clear A40
 have HC5 := Aside0.mk H
 clear H
 go_enter Try.func15, Try.ntmps15
 go_upto_region 2 with (first | ((with_reducible refine gate_dst (N := 3) rfl ?_); (try (refine gate_guard (by rfl) ?_; dsimp only)); refine box_event ?hg (N := 3) ?hd (cs := #[.int .i64 a0_0, .int .i64 a0_1, .int .i64 a0_2, .int .i64 a0_3, .slice A0_4 l0_4.length c0_4]) (t := 46) ?hr ?_; (case hd => rfl); (case hg => rfl); (case hr => first | (go_simp; done) | (go_simp; rfl)); intro gb234 hg w6 hbox hb; have n0_ := Cz.bs (w := w) hb; have n1_ := Aside0.mk (hbox); have n2_ := Aside0.mk ((Cz.gs hg : w.heap.size ≤ gb234)); have n3_ := Aside0.mk ((Cz.gs hg : w.heap.size ≤ gb234)); clear HB; have HB := n0_; have BK234 := n1_; have GW234 := n2_; have GE234 := n3_; clear n0_ n1_ n2_ n3_; clear hb hbox hg) | (go_at_call 32; (with_reducible refine (waggonerlaw07_awake.calls  t235 _ A4.out).mono ?_); rintro e w7 ⟨rfl, hb⟩; have n0_ := Cz.bk BK234 hb; have n1_ := Cz.bs (w := w) hb; clear BK234; clear HB; have BK234 := n0_; have HB := n1_; clear n0_ n1_; (try clear hb); (try clear hb2); (try clear hk); (try clear hi)))
 repeat (go_quiet (first | ((with_reducible refine gate_dst (N := 3) rfl ?_); (try (refine gate_guard (by rfl) ?_; dsimp only)); refine box_event ?hg (N := 3) ?hd (cs := #[.int .i64 a0_0, .int .i64 a0_1, .int .i64 a0_2, .int .i64 a0_3, .slice A0_4 l0_4.length c0_4]) (t := 46) ?hr ?_; (case hd => rfl); (case hg => rfl); (case hr => first | (go_simp; done) | (go_simp; rfl)); intro gb234 hg w6 hbox hb; have n0_ := Cz.bs (w := w) hb; have n1_ := Aside0.mk (hbox); have n2_ := Aside0.mk ((Cz.gs hg : w.heap.size ≤ gb234)); have n3_ := Aside0.mk ((Cz.gs hg : w.heap.size ≤ gb234)); clear HB; have HB := n0_; have BK234 := n1_; have GW234 := n2_; have GE234 := n3_; clear n0_ n1_ n2_ n3_; clear hb hbox hg) | (go_at_call 32; (with_reducible refine (waggonerlaw07_awake.calls  t235 _ A4.out).mono ?_); rintro e w7 ⟨rfl, hb⟩; have n0_ := Cz.bk BK234 hb; have n1_ := Cz.bs (w := w) hb; clear BK234; clear HB; have BK234 := n0_; have HB := n1_; clear n0_ n1_; (try clear hb); (try clear hb2); (try clear hk); (try clear hi))); go_upto_region 2 with (first | ((with_reducible refine gate_dst (N := 3) rfl ?_); (try (refine gate_guard (by rfl) ?_; dsimp only)); refine box_event ?hg (N := 3) ?hd (cs := #[.int .i64 a0_0, .int .i64 a0_1, .int .i64 a0_2, .int .i64 a0_3, .slice A0_4 l0_4.length c0_4]) (t := 46) ?hr ?_; (case hd => rfl); (case hg => rfl); (case hr => first | (go_simp; done) | (go_simp; rfl)); intro gb234 hg w6 hbox hb; have n0_ := Cz.bs (w := w) hb; have n1_ := Aside0.mk (hbox); have n2_ := Aside0.mk ((Cz.gs hg : w.heap.size ≤ gb234)); have n3_ := Aside0.mk ((Cz.gs hg : w.heap.size ≤ gb234)); clear HB; have HB := n0_; have BK234 := n1_; have GW234 := n2_; have GE234 := n3_; clear n0_ n1_ n2_ n3_; clear hb hbox hg) | (go_at_call 32; (with_reducible refine (waggonerlaw07_awake.calls  t235 _ A4.out).mono ?_); rintro e w7 ⟨rfl, hb⟩; have n0_ := Cz.bk BK234 hb; have n1_ := Cz.bs (w := w) hb; clear BK234; clear HB; have BK234 := n0_; have HB := n1_; clear n0_ n1_; (try clear hb); (try clear hb2); (try clear hk); (try clear hi))))
 (try simp only [Act.put, Kx.sb, Kx.sz, Kx.ss])
 go_cut [24] (fun v24 wc => ∃ (kq : Nat) (x24_4 : Bool), v24 = .bool x24_4 ∧ Aside0 (waggonerlaw07_ExtentCuts.j0 kq a1 a2 t235 x24_4 a0_0 a0_1 a0_2 a0_3 l0_4 = some true) ∧ Aside0 (kq ≤ k) ∧ Aside0 (wc.heap[gb234]? = some (.cells #[.int .i64 a0_0, .int .i64 a0_1, .int .i64 a0_2, .int .i64 a0_3, (.slice A0_4 l0_4.length c0_4)] 46 (0, 0))) ∧ Aside0 (Below w.heap.size w wc))
 case first =>
  have H := HC5.out
  clear HC5
  by_cases c8 : (l0_4.length : Int) > 3000
  ·rw [if_pos c8] at H
   have c8b0 : decide (3000 < (l0_4.length : Int)) = true := decide_eq_true c8
   have c8b1 : decide (3000 < l0_4.length) = true := decide_eq_true (by omega)
   clear c8
   (first | rw [c8b0] | (simp only [i64_w, i32_w]; rw [c8b0]) | skip)
   have H' := Aside0.mk H
   clear H
   obtain ⟨hcz9_0, hcz9_1, hcz9_2, hcz9_3, hcz9_4, hfz9_0, hfz9_1, hfz9_2, hfz9_3, hfz9_4⟩ := Cz.d5 BK234
   go_wp2
   repeat (go_quiet (fail); try go_wp2)
   go_meet
   case rel => exact ⟨_, (true), (by first | rfl | (simp; done) | (simp [*]; done)), H', ⟨by first | omega | exact Nat.le_refl _⟩, ⟨by (with_reducible repeat (first | refine blk_drewN ?_ _ | refine blk_drew ?_ | refine blk_alloc ?_ _)); exact BK234.out⟩, ⟨by repeat (first | (with_reducible first | exact HB.out | apply below_alloc | apply pw_below_drewN | apply below_drew1 | refine below_set ?_ GE234.out) | exact HB.out)⟩⟩
  ·rw [if_neg c8] at H
   have c8b0 : decide (3000 < (l0_4.length : Int)) = false := decide_eq_false c8
   have c8b1 : decide (3000 < l0_4.length) = false := decide_eq_false (by omega)
   clear c8
   (first | rw [c8b0] | (simp only [i64_w, i32_w]; rw [c8b0]) | skip)
   replace H := Option.bind_eq_some_iff.mp H
   obtain ⟨t236, A100, H⟩ := H
   (try dsimp only at H)
   have A10 := Aside0.mk A100
   clear A100
   have H' := Aside0.mk H
   clear H
   obtain ⟨hcz11_0, hcz11_1, hcz11_2, hcz11_3, hcz11_4, hfz11_0, hfz11_1, hfz11_2, hfz11_3, hfz11_4⟩ := Cz.d5 BK234
   go_wp2_with (first | (go_at_call 38; (with_reducible refine (extent_Check.calls a0_0 a0_1 a0_2 a0_3 _ _ l0_4 t236 _ ?side1 ?side2 A10.out).mono ?_); (case side1 => exact Cz.cb HR0_4); (case side2 => exact HC0_4.out); rintro e w12 ⟨rfl, hb⟩; have n0_ := Cz.bk BK234 hb; have n1_ := Cz.bs (w := w) hb; clear BK234; clear HB; have BK234 := n0_; have HB := n1_; clear n0_ n1_; (try clear hb); (try clear hb2); (try clear hk); (try clear hi)))
   repeat (go_quiet (first | (go_at_call 38; (with_reducible refine (extent_Check.calls a0_0 a0_1 a0_2 a0_3 _ _ l0_4 t236 _ ?side1 ?side2 A10.out).mono ?_); (case side1 => exact Cz.cb HR0_4); (case side2 => exact HC0_4.out); rintro e w12 ⟨rfl, hb⟩; have n0_ := Cz.bk BK234 hb; have n1_ := Cz.bs (w := w) hb; clear BK234; clear HB; have BK234 := n0_; have HB := n1_; clear n0_ n1_; (try clear hb); (try clear hb2); (try clear hk); (try clear hi))); try go_wp2_with (first | (go_at_call 38; (with_reducible refine (extent_Check.calls a0_0 a0_1 a0_2 a0_3 _ _ l0_4 t236 _ ?side1 ?side2 A10.out).mono ?_); (case side1 => exact Cz.cb HR0_4); (case side2 => exact HC0_4.out); rintro e w12 ⟨rfl, hb⟩; have n0_ := Cz.bk BK234 hb; have n1_ := Cz.bs (w := w) hb; clear BK234; clear HB; have BK234 := n0_; have HB := n1_; clear n0_ n1_; (try clear hb); (try clear hb2); (try clear hk); (try clear hi))))
   go_meet
   case rel => exact ⟨_, (!t236), (by first | rfl | (simp; done) | (simp [*]; done)), H', ⟨by first | omega | exact Nat.le_refl _⟩, ⟨by (with_reducible repeat (first | refine blk_drewN ?_ _ | refine blk_drew ?_ | refine blk_alloc ?_ _)); exact BK234.out⟩, ⟨by repeat (first | (with_reducible first | exact HB.out | apply below_alloc | apply pw_below_drewN | apply below_drew1 | refine below_set ?_ GE234.out) | exact HB.out)⟩⟩
 case rest =>
  clear HC5
  try clear c1
  try clear p2
  try clear c8
  try clear c8b0
  try clear c8b1
  try clear hcz11_0
  try clear hcz11_1
  try clear hcz11_2
  try clear hcz11_3
  try clear hcz11_4
  try clear hcz9_0
  try clear hcz9_1
  try clear hcz9_2
  try clear hcz9_3
  try clear hcz9_4
  try clear hfz11_0
  try clear hfz11_1
  try clear hfz11_2
  try clear hfz11_3
  try clear hfz11_4
  try clear hfz9_0
  try clear hfz9_1
  try clear hfz9_2
  try clear hfz9_3
  try clear hfz9_4
  obtain ⟨kq, x24_4, rfl, HA, HJ4, BK234, HB⟩ := hcut
  cases kq with
  | zero => exact absurd HA.out (by simp [waggonerlaw07_ExtentCuts.j0])
  | succ kj4 =>
   have H := HA.out
   clear HA
   simp only [waggonerlaw07_ExtentCuts.j0] at H
   by_cases c13 : x24_4 = true
   ·subst c13
    rw [if_pos rfl] at H
    (have HRT := Aside0.mk (Option.some.inj H); clear H)
    go_wp2
    repeat (go_quiet (fail); try go_wp2)
    go_ret
    exact ⟨by first | rfl | (exact congrArg (fun z_ => Ending.returned (Value.bool z_)) HRT.out) | (rw [HRT.out]; done) | (simp [errW_none, errW_some] <;> rfl) | (simp [*, errW_none, errW_some] <;> rfl), by repeat (first | (with_reducible first | exact HB.out | apply below_alloc | apply pw_below_drewN | apply below_drew1 | refine below_set ?_ GE234.out) | exact HB.out)⟩
   ·replace c13 := Bool.eq_false_iff.mpr c13
    subst c13
    rw [if_neg (show ¬ (false = true) by decide)] at H
    replace H := Option.bind_eq_some_iff.mp H
    obtain ⟨⟨t237, t238, t239, t240, t241, t244⟩, A140, H⟩ := H
    (try dsimp only at H)
    have A14 := Aside0.mk A140
    clear A140
    replace H := Option.bind_eq_some_iff.mp H
    obtain ⟨⟨t246, t247, t248, t249, t250, t253⟩, A150, H⟩ := H
    (try dsimp only at H)
    have A15 := Aside0.mk A150
    clear A150
    replace H := Option.bind_eq_some_iff.mp H
    obtain ⟨t255, A160, H⟩ := H
    (try dsimp only at H)
    have A16 := Aside0.mk A160
    clear A160
    replace H := Option.bind_eq_some_iff.mp H
    obtain ⟨t258, A170, H⟩ := H
    (try dsimp only at H)
    have A17 := Aside0.mk A170
    clear A170
    have HC18 := Aside0.mk H
    clear H
    obtain ⟨hcz19_0, hcz19_1, hcz19_2, hcz19_3, hcz19_4, hfz19_0, hfz19_1, hfz19_2, hfz19_3, hfz19_4⟩ := Cz.d5 BK234
    go_upto_region 8 with (first | (go_at_call 33; (with_reducible refine (extent_Cut.calls a0_0 a0_1 a0_2 a0_3 _ _ l0_4 0 64 t237 t238 t239 t240 t241 t244 _ ?side1 ?side2 A14.out).mono ?_); (case side1 => exact Cz.cb HR0_4); (case side2 => exact HC0_4.out); rintro e w20 ⟨v242, rfl, ho0, hb⟩; have n0_ := Aside0.mk (Kd.R_lower ho0 (below_size (by repeat (first | (with_reducible first | exact HB.out | apply below_alloc | apply pw_below_drewN | apply below_drew1 | refine below_set ?_ GE234.out) | exact HB.out)))); have n1_ := Cz.bk BK234 hb; have n2_ := Cz.bs (w := w) hb; clear BK234; clear HB; have HO243 := n0_; have BK234 := n1_; have HB := n2_; clear n0_ n1_ n2_; (try clear hb); (try clear hb2); (try clear hk); (try clear hi); (try clear ho0)) | ((with_reducible refine gate_dst (N := 8) rfl ?_); (try (refine gate_guard (by rfl) ?_; dsimp only)); refine box_event ?hg (N := 8) ?hd (cs := #[.int .i64 0, .int .i64 0, .int .i64 0, .int .i64 0, .slice none 0 0]) (t := 46) ?hr ?_; (case hd => rfl); (case hg => rfl); (case hr => first | (go_simp; done) | (go_simp; rfl)); intro gb245 hg w21 hbox hb; have n0_ := Cz.rb HO243 hb; have n1_ := Cz.bk BK234 hb; have n2_ := Cz.bs (w := w) hb; have n3_ := Aside0.mk (hbox); have n4_ := Aside0.mk ((Cz.gs hg : w.heap.size ≤ gb245)); have n5_ := Aside0.mk ((Cz.gs hg : w.heap.size ≤ gb245)); have n6_ := Aside0.mk ((Cz.nl BK234 hg : gb234 ≠ gb245)); have n7_ := Aside0.mk ((Cz.nr BK234 hg : gb245 ≠ gb234)); clear HO243; clear BK234; clear HB; have HO243 := n0_; have BK234 := n1_; have HB := n2_; have BK245 := n3_; have GW245 := n4_; have GE245 := n5_; have NB234_245 := n6_; have NB245_234 := n7_; clear n0_ n1_ n2_ n3_ n4_ n5_ n6_ n7_; clear hb hbox hg; have hnb22 := NB245_234.out; have hnc22 := NB234_245.out; obtain ⟨hcz23_0, hcz23_1, hcz23_2, hcz23_3, hcz23_4, hfz23_0, hfz23_1, hfz23_2, hfz23_3, hfz23_4⟩ := Cz.d5 BK245; obtain ⟨Ao24, co24, eo24⟩ := Kd.R_slice HO243.out; subst eo24; obtain ⟨hcz25_0, hcz25_1, hcz25_2, hcz25_3, hcz25_4, hfz25_0, hfz25_1, hfz25_2, hfz25_3, hfz25_4⟩ := Cz.d5 BK234) | (go_at_call 33; (with_reducible refine (extent_Cut.calls a0_0 a0_1 a0_2 a0_3 _ _ l0_4 a1 a2 t246 t247 t248 t249 t250 t253 _ ?side1 ?side2 A15.out).mono ?_); (case side1 => exact Kd.C_below HR0_4.out (by repeat (first | (with_reducible first | exact HB.out | apply below_alloc | apply pw_below_drewN | apply below_drew1 | refine below_set ?_ GE234.out | refine below_set ?_ GE245.out) | exact HB.out))); (case side2 => exact HC0_4.out); rintro e w26 ⟨v251, rfl, ho0, hb⟩; have n0_ := Aside0.mk (Kd.R_elder' (by (with_reducible repeat (first | apply Kd.R_alloc | apply Kd.R_drewN | apply Kd.R_drew)); exact (Kd.R_mono (Kd.R_far (p := ⟨gb245, 4, none⟩) (Kd.R_far (p := ⟨gb245, 3, none⟩) (Kd.R_far (p := ⟨gb245, 2, none⟩) (Kd.R_far (p := ⟨gb245, 1, none⟩) (Kd.R_far (p := ⟨gb245, 0, none⟩) (Kd.R_types HO243.out BK245.out (by decide)) (fun _ hk => hk.2) (.int .i64 t237)) (fun _ hk => hk.2) (.int .i64 t238)) (fun _ hk => hk.2) (.int .i64 t239)) (fun _ hk => hk.2) (.int .i64 t240)) (fun _ hk => hk.2) (.slice Ao24 t241.length co24)) (fun _ h_ => h_.1))) (Kd.R_base ho0) hb); have n1_ := Aside0.mk (Kd.R_lower (Kd.R_new' ho0 (Kd.R_lt (by (with_reducible repeat (first | apply Kd.R_alloc | apply Kd.R_drewN | apply Kd.R_drew)); exact (Kd.R_mono (Kd.R_far (p := ⟨gb245, 4, none⟩) (Kd.R_far (p := ⟨gb245, 3, none⟩) (Kd.R_far (p := ⟨gb245, 2, none⟩) (Kd.R_far (p := ⟨gb245, 1, none⟩) (Kd.R_far (p := ⟨gb245, 0, none⟩) (Kd.R_types HO243.out BK245.out (by decide)) (fun _ hk => hk.2) (.int .i64 t237)) (fun _ hk => hk.2) (.int .i64 t238)) (fun _ hk => hk.2) (.int .i64 t239)) (fun _ hk => hk.2) (.int .i64 t240)) (fun _ hk => hk.2) (.slice Ao24 t241.length co24)) (fun _ h_ => h_.1))))) (below_size (by repeat (first | (with_reducible first | exact HB.out | apply below_alloc | apply pw_below_drewN | apply below_drew1 | refine below_set ?_ GE234.out | refine below_set ?_ GE245.out) | exact HB.out)))); have n2_ := Aside0.mk (blk_below (g := gb234) (o := .cells #[.int .i64 a0_0, .int .i64 a0_1, .int .i64 a0_2, .int .i64 a0_3, .slice A0_4 l0_4.length c0_4] 46 (0, 0)) (by (with_reducible repeat (first | refine blk_drewN ?_ _ | refine blk_drew ?_ | refine blk_alloc ?_ _)); refine blk_far ?_ NB234_245.out _; refine blk_far ?_ NB234_245.out _; refine blk_far ?_ NB234_245.out _; refine blk_far ?_ NB234_245.out _; refine blk_far ?_ NB234_245.out _; (with_reducible repeat (first | refine blk_drewN ?_ _ | refine blk_drew ?_ | refine blk_alloc ?_ _)); exact BK234.out) hb); have n3_ := Aside0.mk (blk_below (g := gb245) (o := .cells #[.int .i64 t237, .int .i64 t238, .int .i64 t239, .int .i64 t240, .slice Ao24 t241.length co24] 46 (0, 0)) (by (with_reducible repeat (first | refine blk_drewN ?_ _ | refine blk_drew ?_ | refine blk_alloc ?_ _)); refine blk_put (cs := #[.int .i64 t237, .int .i64 t238, .int .i64 t239, .int .i64 t240, .slice none 0 0]) ?_ 4 _ rfl; refine blk_put (cs := #[.int .i64 t237, .int .i64 t238, .int .i64 t239, .int .i64 0, .slice none 0 0]) ?_ 3 _ rfl; refine blk_put (cs := #[.int .i64 t237, .int .i64 t238, .int .i64 0, .int .i64 0, .slice none 0 0]) ?_ 2 _ rfl; refine blk_put (cs := #[.int .i64 t237, .int .i64 0, .int .i64 0, .int .i64 0, .slice none 0 0]) ?_ 1 _ rfl; refine blk_put (cs := #[.int .i64 0, .int .i64 0, .int .i64 0, .int .i64 0, .slice none 0 0]) ?_ 0 _ rfl; (with_reducible repeat (first | refine blk_drewN ?_ _ | refine blk_drew ?_ | refine blk_alloc ?_ _)); exact BK245.out) hb); have n4_ := Cz.bs (w := w) hb; clear HO243; clear BK234; clear BK245; clear HB; have HO243 := n0_; have HO252 := n1_; have BK234 := n2_; have BK245 := n3_; have HB := n4_; clear n0_ n1_ n2_ n3_ n4_; (try clear hb); (try clear hb2); (try clear hk); (try clear hi); (try clear ho0)) | ((with_reducible refine gate_dst (N := 10) rfl ?_); (try (refine gate_guard (by rfl) ?_; dsimp only)); refine box_event ?hg (N := 10) ?hd (cs := #[.int .i64 0, .int .i64 0, .int .i64 0, .int .i64 0, .slice none 0 0]) (t := 46) ?hr ?_; (case hd => rfl); (case hg => rfl); (case hr => first | (go_simp; done) | (go_simp; rfl)); intro gb254 hg w27 hbox hb; have n0_ := Cz.rb HO243 hb; have n1_ := Cz.rb HO252 hb; have n2_ := Cz.bk BK234 hb; have n3_ := Cz.bk BK245 hb; have n4_ := Cz.bs (w := w) hb; have n5_ := Aside0.mk (hbox); have n6_ := Aside0.mk ((Cz.gs hg : w.heap.size ≤ gb254)); have n7_ := Aside0.mk ((Cz.gs hg : w.heap.size ≤ gb254)); have n8_ := Aside0.mk ((Cz.nl BK234 hg : gb234 ≠ gb254)); have n9_ := Aside0.mk ((Cz.nr BK234 hg : gb254 ≠ gb234)); have n10_ := Aside0.mk ((Cz.nl BK245 hg : gb245 ≠ gb254)); have n11_ := Aside0.mk ((Cz.nr BK245 hg : gb254 ≠ gb245)); clear HO243; clear HO252; clear BK234; clear BK245; clear HB; have HO243 := n0_; have HO252 := n1_; have BK234 := n2_; have BK245 := n3_; have HB := n4_; have BK254 := n5_; have GW254 := n6_; have GE254 := n7_; have NB234_254 := n8_; have NB254_234 := n9_; have NB245_254 := n10_; have NB254_245 := n11_; clear n0_ n1_ n2_ n3_ n4_ n5_ n6_ n7_ n8_ n9_ n10_ n11_; clear hb hbox hg; have hnb28 := NB254_234.out; have hnc28 := NB234_254.out; have hnb29 := NB254_245.out; have hnc29 := NB245_254.out; obtain ⟨hcz30_0, hcz30_1, hcz30_2, hcz30_3, hcz30_4, hfz30_0, hfz30_1, hfz30_2, hfz30_3, hfz30_4⟩ := Cz.d5 BK254; obtain ⟨Ao31, co31, eo31⟩ := Kd.R_slice HO252.out; subst eo31; obtain ⟨hcz32_0, hcz32_1, hcz32_2, hcz32_3, hcz32_4, hfz32_0, hfz32_1, hfz32_2, hfz32_3, hfz32_4⟩ := Cz.d5 BK234) | (go_at_call 40; (with_reducible refine (extent_Bytes.calls a0_0 a0_1 a0_2 a0_3 _ _ l0_4 t255 _ ?side1 ?side2 A16.out).mono ?_); (case side1 => exact Kd.C_below HR0_4.out (by repeat (first | (with_reducible first | exact HB.out | apply below_alloc | apply pw_below_drewN | apply below_drew1 | refine below_set ?_ GE234.out | refine below_set ?_ GE245.out | refine below_set ?_ GE254.out) | exact HB.out))); (case side2 => exact HC0_4.out); rintro e w33 ⟨v256, rfl, ho0, hb⟩; have n0_ := Aside0.mk (Kd.R_elder' (by (with_reducible repeat (first | apply Kd.R_alloc | apply Kd.R_drewN | apply Kd.R_drew)); exact (Kd.R_mono (Kd.R_far (p := ⟨gb254, 4, none⟩) (Kd.R_far (p := ⟨gb254, 3, none⟩) (Kd.R_far (p := ⟨gb254, 2, none⟩) (Kd.R_far (p := ⟨gb254, 1, none⟩) (Kd.R_far (p := ⟨gb254, 0, none⟩) (Kd.R_types HO243.out BK254.out (by decide)) (fun _ hk => hk.2) (.int .i64 t246)) (fun _ hk => hk.2) (.int .i64 t247)) (fun _ hk => hk.2) (.int .i64 t248)) (fun _ hk => hk.2) (.int .i64 t249)) (fun _ hk => hk.2) (.slice Ao31 t250.length co31)) (fun _ h_ => h_.1))) (Kd.R_base ho0) hb); have n1_ := Aside0.mk (Kd.R_elder' (by (with_reducible repeat (first | apply Kd.R_alloc | apply Kd.R_drewN | apply Kd.R_drew)); exact (Kd.R_mono (Kd.R_far (p := ⟨gb254, 4, none⟩) (Kd.R_far (p := ⟨gb254, 3, none⟩) (Kd.R_far (p := ⟨gb254, 2, none⟩) (Kd.R_far (p := ⟨gb254, 1, none⟩) (Kd.R_far (p := ⟨gb254, 0, none⟩) (Kd.R_types HO252.out BK254.out (by decide)) (fun _ hk => hk.2) (.int .i64 t246)) (fun _ hk => hk.2) (.int .i64 t247)) (fun _ hk => hk.2) (.int .i64 t248)) (fun _ hk => hk.2) (.int .i64 t249)) (fun _ hk => hk.2) (.slice Ao31 t250.length co31)) (fun _ h_ => h_.1))) (Kd.R_base ho0) hb); have n2_ := Aside0.mk (Kd.R_lower (Kd.R_new' (Kd.R_new' ho0 (Kd.R_lt (by (with_reducible repeat (first | apply Kd.R_alloc | apply Kd.R_drewN | apply Kd.R_drew)); exact (Kd.R_mono (Kd.R_far (p := ⟨gb254, 4, none⟩) (Kd.R_far (p := ⟨gb254, 3, none⟩) (Kd.R_far (p := ⟨gb254, 2, none⟩) (Kd.R_far (p := ⟨gb254, 1, none⟩) (Kd.R_far (p := ⟨gb254, 0, none⟩) (Kd.R_types HO243.out BK254.out (by decide)) (fun _ hk => hk.2) (.int .i64 t246)) (fun _ hk => hk.2) (.int .i64 t247)) (fun _ hk => hk.2) (.int .i64 t248)) (fun _ hk => hk.2) (.int .i64 t249)) (fun _ hk => hk.2) (.slice Ao31 t250.length co31)) (fun _ h_ => h_.1))))) (Kd.R_lt (by (with_reducible repeat (first | apply Kd.R_alloc | apply Kd.R_drewN | apply Kd.R_drew)); exact (Kd.R_mono (Kd.R_far (p := ⟨gb254, 4, none⟩) (Kd.R_far (p := ⟨gb254, 3, none⟩) (Kd.R_far (p := ⟨gb254, 2, none⟩) (Kd.R_far (p := ⟨gb254, 1, none⟩) (Kd.R_far (p := ⟨gb254, 0, none⟩) (Kd.R_types HO252.out BK254.out (by decide)) (fun _ hk => hk.2) (.int .i64 t246)) (fun _ hk => hk.2) (.int .i64 t247)) (fun _ hk => hk.2) (.int .i64 t248)) (fun _ hk => hk.2) (.int .i64 t249)) (fun _ hk => hk.2) (.slice Ao31 t250.length co31)) (fun _ h_ => h_.1))))) (below_size (by repeat (first | (with_reducible first | exact HB.out | apply below_alloc | apply pw_below_drewN | apply below_drew1 | refine below_set ?_ GE234.out | refine below_set ?_ GE245.out | refine below_set ?_ GE254.out) | exact HB.out)))); have n3_ := Aside0.mk (blk_below (g := gb234) (o := .cells #[.int .i64 a0_0, .int .i64 a0_1, .int .i64 a0_2, .int .i64 a0_3, .slice A0_4 l0_4.length c0_4] 46 (0, 0)) (by (with_reducible repeat (first | refine blk_drewN ?_ _ | refine blk_drew ?_ | refine blk_alloc ?_ _)); refine blk_far ?_ NB234_254.out _; refine blk_far ?_ NB234_254.out _; refine blk_far ?_ NB234_254.out _; refine blk_far ?_ NB234_254.out _; refine blk_far ?_ NB234_254.out _; (with_reducible repeat (first | refine blk_drewN ?_ _ | refine blk_drew ?_ | refine blk_alloc ?_ _)); exact BK234.out) hb); have n4_ := Aside0.mk (blk_below (g := gb245) (o := .cells #[.int .i64 t237, .int .i64 t238, .int .i64 t239, .int .i64 t240, .slice Ao24 t241.length co24] 46 (0, 0)) (by (with_reducible repeat (first | refine blk_drewN ?_ _ | refine blk_drew ?_ | refine blk_alloc ?_ _)); refine blk_far ?_ NB245_254.out _; refine blk_far ?_ NB245_254.out _; refine blk_far ?_ NB245_254.out _; refine blk_far ?_ NB245_254.out _; refine blk_far ?_ NB245_254.out _; (with_reducible repeat (first | refine blk_drewN ?_ _ | refine blk_drew ?_ | refine blk_alloc ?_ _)); exact BK245.out) hb); have n5_ := Aside0.mk (blk_below (g := gb254) (o := .cells #[.int .i64 t246, .int .i64 t247, .int .i64 t248, .int .i64 t249, .slice Ao31 t250.length co31] 46 (0, 0)) (by (with_reducible repeat (first | refine blk_drewN ?_ _ | refine blk_drew ?_ | refine blk_alloc ?_ _)); refine blk_put (cs := #[.int .i64 t246, .int .i64 t247, .int .i64 t248, .int .i64 t249, .slice none 0 0]) ?_ 4 _ rfl; refine blk_put (cs := #[.int .i64 t246, .int .i64 t247, .int .i64 t248, .int .i64 0, .slice none 0 0]) ?_ 3 _ rfl; refine blk_put (cs := #[.int .i64 t246, .int .i64 t247, .int .i64 0, .int .i64 0, .slice none 0 0]) ?_ 2 _ rfl; refine blk_put (cs := #[.int .i64 t246, .int .i64 0, .int .i64 0, .int .i64 0, .slice none 0 0]) ?_ 1 _ rfl; refine blk_put (cs := #[.int .i64 0, .int .i64 0, .int .i64 0, .int .i64 0, .slice none 0 0]) ?_ 0 _ rfl; (with_reducible repeat (first | refine blk_drewN ?_ _ | refine blk_drew ?_ | refine blk_alloc ?_ _)); exact BK254.out) hb); have n6_ := Cz.bs (w := w) hb; clear HO243; clear HO252; clear BK234; clear BK245; clear BK254; clear HB; have HO243 := n0_; have HO252 := n1_; have HO257 := n2_; have BK234 := n3_; have BK245 := n4_; have BK254 := n5_; have HB := n6_; clear n0_ n1_ n2_ n3_ n4_ n5_ n6_; (try clear hb); (try clear hb2); (try clear hk); (try clear hi); (try clear ho0); obtain ⟨hcz34_0, hcz34_1, hcz34_2, hcz34_3, hcz34_4, hfz34_0, hfz34_1, hfz34_2, hfz34_3, hfz34_4⟩ := Cz.d5 BK254) | (go_at_call 40; (with_reducible refine (extent_Bytes.calls t246 t247 t248 t249 _ _ t250 t258 _ ?side1 ?side2 A17.out).mono ?_); (case side1 => repeat (first | exact (Kd.R_reads' HO252.out).2.2 | (with_reducible refine Kd.C_alloc ?_ _) | (with_reducible refine Kd.C_drewN ?_ _) | (with_reducible refine Kd.C_drew ?_))); (case side2 => exact (Kd.R_reads' HO252.out).2.1); rintro e w35 ⟨v259, rfl, ho0, hb⟩; have n0_ := Aside0.mk (Kd.R_elder' (by (with_reducible repeat (first | apply Kd.R_alloc | apply Kd.R_drewN | apply Kd.R_drew)); exact HO243.out) (Kd.R_base ho0) hb); have n1_ := Aside0.mk (Kd.R_elder' (by (with_reducible repeat (first | apply Kd.R_alloc | apply Kd.R_drewN | apply Kd.R_drew)); exact HO252.out) (Kd.R_base ho0) hb); have n2_ := Aside0.mk (Kd.R_elder' (by (with_reducible repeat (first | apply Kd.R_alloc | apply Kd.R_drewN | apply Kd.R_drew)); exact HO257.out) (Kd.R_base ho0) hb); have n3_ := Aside0.mk (Kd.R_lower (Kd.R_new' (Kd.R_new' (Kd.R_new' ho0 (Kd.R_lt (by (with_reducible repeat (first | apply Kd.R_alloc | apply Kd.R_drewN | apply Kd.R_drew)); exact HO243.out))) (Kd.R_lt (by (with_reducible repeat (first | apply Kd.R_alloc | apply Kd.R_drewN | apply Kd.R_drew)); exact HO252.out))) (Kd.R_lt (by (with_reducible repeat (first | apply Kd.R_alloc | apply Kd.R_drewN | apply Kd.R_drew)); exact HO257.out))) (below_size (by repeat (first | (with_reducible first | exact HB.out | apply below_alloc | apply pw_below_drewN | apply below_drew1 | refine below_set ?_ GE234.out | refine below_set ?_ GE245.out | refine below_set ?_ GE254.out) | exact HB.out)))); have n4_ := Cz.bk BK234 hb; have n5_ := Cz.bk BK245 hb; have n6_ := Cz.bk BK254 hb; have n7_ := Cz.bs (w := w) hb; clear HO243; clear HO252; clear HO257; clear BK234; clear BK245; clear BK254; clear HB; have HO243 := n0_; have HO252 := n1_; have HO257 := n2_; have HO260 := n3_; have BK234 := n4_; have BK245 := n5_; have BK254 := n6_; have HB := n7_; clear n0_ n1_ n2_ n3_ n4_ n5_ n6_ n7_; (try clear hb); (try clear hb2); (try clear hk); (try clear hi); (try clear ho0)))
    repeat (go_quiet (first | (go_at_call 33; (with_reducible refine (extent_Cut.calls a0_0 a0_1 a0_2 a0_3 _ _ l0_4 0 64 t237 t238 t239 t240 t241 t244 _ ?side1 ?side2 A14.out).mono ?_); (case side1 => exact Cz.cb HR0_4); (case side2 => exact HC0_4.out); rintro e w20 ⟨v242, rfl, ho0, hb⟩; have n0_ := Aside0.mk (Kd.R_lower ho0 (below_size (by repeat (first | (with_reducible first | exact HB.out | apply below_alloc | apply pw_below_drewN | apply below_drew1 | refine below_set ?_ GE234.out) | exact HB.out)))); have n1_ := Cz.bk BK234 hb; have n2_ := Cz.bs (w := w) hb; clear BK234; clear HB; have HO243 := n0_; have BK234 := n1_; have HB := n2_; clear n0_ n1_ n2_; (try clear hb); (try clear hb2); (try clear hk); (try clear hi); (try clear ho0)) | ((with_reducible refine gate_dst (N := 8) rfl ?_); (try (refine gate_guard (by rfl) ?_; dsimp only)); refine box_event ?hg (N := 8) ?hd (cs := #[.int .i64 0, .int .i64 0, .int .i64 0, .int .i64 0, .slice none 0 0]) (t := 46) ?hr ?_; (case hd => rfl); (case hg => rfl); (case hr => first | (go_simp; done) | (go_simp; rfl)); intro gb245 hg w21 hbox hb; have n0_ := Cz.rb HO243 hb; have n1_ := Cz.bk BK234 hb; have n2_ := Cz.bs (w := w) hb; have n3_ := Aside0.mk (hbox); have n4_ := Aside0.mk ((Cz.gs hg : w.heap.size ≤ gb245)); have n5_ := Aside0.mk ((Cz.gs hg : w.heap.size ≤ gb245)); have n6_ := Aside0.mk ((Cz.nl BK234 hg : gb234 ≠ gb245)); have n7_ := Aside0.mk ((Cz.nr BK234 hg : gb245 ≠ gb234)); clear HO243; clear BK234; clear HB; have HO243 := n0_; have BK234 := n1_; have HB := n2_; have BK245 := n3_; have GW245 := n4_; have GE245 := n5_; have NB234_245 := n6_; have NB245_234 := n7_; clear n0_ n1_ n2_ n3_ n4_ n5_ n6_ n7_; clear hb hbox hg; have hnb22 := NB245_234.out; have hnc22 := NB234_245.out; obtain ⟨hcz23_0, hcz23_1, hcz23_2, hcz23_3, hcz23_4, hfz23_0, hfz23_1, hfz23_2, hfz23_3, hfz23_4⟩ := Cz.d5 BK245; obtain ⟨Ao24, co24, eo24⟩ := Kd.R_slice HO243.out; subst eo24; obtain ⟨hcz25_0, hcz25_1, hcz25_2, hcz25_3, hcz25_4, hfz25_0, hfz25_1, hfz25_2, hfz25_3, hfz25_4⟩ := Cz.d5 BK234) | (go_at_call 33; (with_reducible refine (extent_Cut.calls a0_0 a0_1 a0_2 a0_3 _ _ l0_4 a1 a2 t246 t247 t248 t249 t250 t253 _ ?side1 ?side2 A15.out).mono ?_); (case side1 => exact Kd.C_below HR0_4.out (by repeat (first | (with_reducible first | exact HB.out | apply below_alloc | apply pw_below_drewN | apply below_drew1 | refine below_set ?_ GE234.out | refine below_set ?_ GE245.out) | exact HB.out))); (case side2 => exact HC0_4.out); rintro e w26 ⟨v251, rfl, ho0, hb⟩; have n0_ := Aside0.mk (Kd.R_elder' (by (with_reducible repeat (first | apply Kd.R_alloc | apply Kd.R_drewN | apply Kd.R_drew)); exact (Kd.R_mono (Kd.R_far (p := ⟨gb245, 4, none⟩) (Kd.R_far (p := ⟨gb245, 3, none⟩) (Kd.R_far (p := ⟨gb245, 2, none⟩) (Kd.R_far (p := ⟨gb245, 1, none⟩) (Kd.R_far (p := ⟨gb245, 0, none⟩) (Kd.R_types HO243.out BK245.out (by decide)) (fun _ hk => hk.2) (.int .i64 t237)) (fun _ hk => hk.2) (.int .i64 t238)) (fun _ hk => hk.2) (.int .i64 t239)) (fun _ hk => hk.2) (.int .i64 t240)) (fun _ hk => hk.2) (.slice Ao24 t241.length co24)) (fun _ h_ => h_.1))) (Kd.R_base ho0) hb); have n1_ := Aside0.mk (Kd.R_lower (Kd.R_new' ho0 (Kd.R_lt (by (with_reducible repeat (first | apply Kd.R_alloc | apply Kd.R_drewN | apply Kd.R_drew)); exact (Kd.R_mono (Kd.R_far (p := ⟨gb245, 4, none⟩) (Kd.R_far (p := ⟨gb245, 3, none⟩) (Kd.R_far (p := ⟨gb245, 2, none⟩) (Kd.R_far (p := ⟨gb245, 1, none⟩) (Kd.R_far (p := ⟨gb245, 0, none⟩) (Kd.R_types HO243.out BK245.out (by decide)) (fun _ hk => hk.2) (.int .i64 t237)) (fun _ hk => hk.2) (.int .i64 t238)) (fun _ hk => hk.2) (.int .i64 t239)) (fun _ hk => hk.2) (.int .i64 t240)) (fun _ hk => hk.2) (.slice Ao24 t241.length co24)) (fun _ h_ => h_.1))))) (below_size (by repeat (first | (with_reducible first | exact HB.out | apply below_alloc | apply pw_below_drewN | apply below_drew1 | refine below_set ?_ GE234.out | refine below_set ?_ GE245.out) | exact HB.out)))); have n2_ := Aside0.mk (blk_below (g := gb234) (o := .cells #[.int .i64 a0_0, .int .i64 a0_1, .int .i64 a0_2, .int .i64 a0_3, .slice A0_4 l0_4.length c0_4] 46 (0, 0)) (by (with_reducible repeat (first | refine blk_drewN ?_ _ | refine blk_drew ?_ | refine blk_alloc ?_ _)); refine blk_far ?_ NB234_245.out _; refine blk_far ?_ NB234_245.out _; refine blk_far ?_ NB234_245.out _; refine blk_far ?_ NB234_245.out _; refine blk_far ?_ NB234_245.out _; (with_reducible repeat (first | refine blk_drewN ?_ _ | refine blk_drew ?_ | refine blk_alloc ?_ _)); exact BK234.out) hb); have n3_ := Aside0.mk (blk_below (g := gb245) (o := .cells #[.int .i64 t237, .int .i64 t238, .int .i64 t239, .int .i64 t240, .slice Ao24 t241.length co24] 46 (0, 0)) (by (with_reducible repeat (first | refine blk_drewN ?_ _ | refine blk_drew ?_ | refine blk_alloc ?_ _)); refine blk_put (cs := #[.int .i64 t237, .int .i64 t238, .int .i64 t239, .int .i64 t240, .slice none 0 0]) ?_ 4 _ rfl; refine blk_put (cs := #[.int .i64 t237, .int .i64 t238, .int .i64 t239, .int .i64 0, .slice none 0 0]) ?_ 3 _ rfl; refine blk_put (cs := #[.int .i64 t237, .int .i64 t238, .int .i64 0, .int .i64 0, .slice none 0 0]) ?_ 2 _ rfl; refine blk_put (cs := #[.int .i64 t237, .int .i64 0, .int .i64 0, .int .i64 0, .slice none 0 0]) ?_ 1 _ rfl; refine blk_put (cs := #[.int .i64 0, .int .i64 0, .int .i64 0, .int .i64 0, .slice none 0 0]) ?_ 0 _ rfl; (with_reducible repeat (first | refine blk_drewN ?_ _ | refine blk_drew ?_ | refine blk_alloc ?_ _)); exact BK245.out) hb); have n4_ := Cz.bs (w := w) hb; clear HO243; clear BK234; clear BK245; clear HB; have HO243 := n0_; have HO252 := n1_; have BK234 := n2_; have BK245 := n3_; have HB := n4_; clear n0_ n1_ n2_ n3_ n4_; (try clear hb); (try clear hb2); (try clear hk); (try clear hi); (try clear ho0)) | ((with_reducible refine gate_dst (N := 10) rfl ?_); (try (refine gate_guard (by rfl) ?_; dsimp only)); refine box_event ?hg (N := 10) ?hd (cs := #[.int .i64 0, .int .i64 0, .int .i64 0, .int .i64 0, .slice none 0 0]) (t := 46) ?hr ?_; (case hd => rfl); (case hg => rfl); (case hr => first | (go_simp; done) | (go_simp; rfl)); intro gb254 hg w27 hbox hb; have n0_ := Cz.rb HO243 hb; have n1_ := Cz.rb HO252 hb; have n2_ := Cz.bk BK234 hb; have n3_ := Cz.bk BK245 hb; have n4_ := Cz.bs (w := w) hb; have n5_ := Aside0.mk (hbox); have n6_ := Aside0.mk ((Cz.gs hg : w.heap.size ≤ gb254)); have n7_ := Aside0.mk ((Cz.gs hg : w.heap.size ≤ gb254)); have n8_ := Aside0.mk ((Cz.nl BK234 hg : gb234 ≠ gb254)); have n9_ := Aside0.mk ((Cz.nr BK234 hg : gb254 ≠ gb234)); have n10_ := Aside0.mk ((Cz.nl BK245 hg : gb245 ≠ gb254)); have n11_ := Aside0.mk ((Cz.nr BK245 hg : gb254 ≠ gb245)); clear HO243; clear HO252; clear BK234; clear BK245; clear HB; have HO243 := n0_; have HO252 := n1_; have BK234 := n2_; have BK245 := n3_; have HB := n4_; have BK254 := n5_; have GW254 := n6_; have GE254 := n7_; have NB234_254 := n8_; have NB254_234 := n9_; have NB245_254 := n10_; have NB254_245 := n11_; clear n0_ n1_ n2_ n3_ n4_ n5_ n6_ n7_ n8_ n9_ n10_ n11_; clear hb hbox hg; have hnb28 := NB254_234.out; have hnc28 := NB234_254.out; have hnb29 := NB254_245.out; have hnc29 := NB245_254.out; obtain ⟨hcz30_0, hcz30_1, hcz30_2, hcz30_3, hcz30_4, hfz30_0, hfz30_1, hfz30_2, hfz30_3, hfz30_4⟩ := Cz.d5 BK254; obtain ⟨Ao31, co31, eo31⟩ := Kd.R_slice HO252.out; subst eo31; obtain ⟨hcz32_0, hcz32_1, hcz32_2, hcz32_3, hcz32_4, hfz32_0, hfz32_1, hfz32_2, hfz32_3, hfz32_4⟩ := Cz.d5 BK234) | (go_at_call 40; (with_reducible refine (extent_Bytes.calls a0_0 a0_1 a0_2 a0_3 _ _ l0_4 t255 _ ?side1 ?side2 A16.out).mono ?_); (case side1 => exact Kd.C_below HR0_4.out (by repeat (first | (with_reducible first | exact HB.out | apply below_alloc | apply pw_below_drewN | apply below_drew1 | refine below_set ?_ GE234.out | refine below_set ?_ GE245.out | refine below_set ?_ GE254.out) | exact HB.out))); (case side2 => exact HC0_4.out); rintro e w33 ⟨v256, rfl, ho0, hb⟩; have n0_ := Aside0.mk (Kd.R_elder' (by (with_reducible repeat (first | apply Kd.R_alloc | apply Kd.R_drewN | apply Kd.R_drew)); exact (Kd.R_mono (Kd.R_far (p := ⟨gb254, 4, none⟩) (Kd.R_far (p := ⟨gb254, 3, none⟩) (Kd.R_far (p := ⟨gb254, 2, none⟩) (Kd.R_far (p := ⟨gb254, 1, none⟩) (Kd.R_far (p := ⟨gb254, 0, none⟩) (Kd.R_types HO243.out BK254.out (by decide)) (fun _ hk => hk.2) (.int .i64 t246)) (fun _ hk => hk.2) (.int .i64 t247)) (fun _ hk => hk.2) (.int .i64 t248)) (fun _ hk => hk.2) (.int .i64 t249)) (fun _ hk => hk.2) (.slice Ao31 t250.length co31)) (fun _ h_ => h_.1))) (Kd.R_base ho0) hb); have n1_ := Aside0.mk (Kd.R_elder' (by (with_reducible repeat (first | apply Kd.R_alloc | apply Kd.R_drewN | apply Kd.R_drew)); exact (Kd.R_mono (Kd.R_far (p := ⟨gb254, 4, none⟩) (Kd.R_far (p := ⟨gb254, 3, none⟩) (Kd.R_far (p := ⟨gb254, 2, none⟩) (Kd.R_far (p := ⟨gb254, 1, none⟩) (Kd.R_far (p := ⟨gb254, 0, none⟩) (Kd.R_types HO252.out BK254.out (by decide)) (fun _ hk => hk.2) (.int .i64 t246)) (fun _ hk => hk.2) (.int .i64 t247)) (fun _ hk => hk.2) (.int .i64 t248)) (fun _ hk => hk.2) (.int .i64 t249)) (fun _ hk => hk.2) (.slice Ao31 t250.length co31)) (fun _ h_ => h_.1))) (Kd.R_base ho0) hb); have n2_ := Aside0.mk (Kd.R_lower (Kd.R_new' (Kd.R_new' ho0 (Kd.R_lt (by (with_reducible repeat (first | apply Kd.R_alloc | apply Kd.R_drewN | apply Kd.R_drew)); exact (Kd.R_mono (Kd.R_far (p := ⟨gb254, 4, none⟩) (Kd.R_far (p := ⟨gb254, 3, none⟩) (Kd.R_far (p := ⟨gb254, 2, none⟩) (Kd.R_far (p := ⟨gb254, 1, none⟩) (Kd.R_far (p := ⟨gb254, 0, none⟩) (Kd.R_types HO243.out BK254.out (by decide)) (fun _ hk => hk.2) (.int .i64 t246)) (fun _ hk => hk.2) (.int .i64 t247)) (fun _ hk => hk.2) (.int .i64 t248)) (fun _ hk => hk.2) (.int .i64 t249)) (fun _ hk => hk.2) (.slice Ao31 t250.length co31)) (fun _ h_ => h_.1))))) (Kd.R_lt (by (with_reducible repeat (first | apply Kd.R_alloc | apply Kd.R_drewN | apply Kd.R_drew)); exact (Kd.R_mono (Kd.R_far (p := ⟨gb254, 4, none⟩) (Kd.R_far (p := ⟨gb254, 3, none⟩) (Kd.R_far (p := ⟨gb254, 2, none⟩) (Kd.R_far (p := ⟨gb254, 1, none⟩) (Kd.R_far (p := ⟨gb254, 0, none⟩) (Kd.R_types HO252.out BK254.out (by decide)) (fun _ hk => hk.2) (.int .i64 t246)) (fun _ hk => hk.2) (.int .i64 t247)) (fun _ hk => hk.2) (.int .i64 t248)) (fun _ hk => hk.2) (.int .i64 t249)) (fun _ hk => hk.2) (.slice Ao31 t250.length co31)) (fun _ h_ => h_.1))))) (below_size (by repeat (first | (with_reducible first | exact HB.out | apply below_alloc | apply pw_below_drewN | apply below_drew1 | refine below_set ?_ GE234.out | refine below_set ?_ GE245.out | refine below_set ?_ GE254.out) | exact HB.out)))); have n3_ := Aside0.mk (blk_below (g := gb234) (o := .cells #[.int .i64 a0_0, .int .i64 a0_1, .int .i64 a0_2, .int .i64 a0_3, .slice A0_4 l0_4.length c0_4] 46 (0, 0)) (by (with_reducible repeat (first | refine blk_drewN ?_ _ | refine blk_drew ?_ | refine blk_alloc ?_ _)); refine blk_far ?_ NB234_254.out _; refine blk_far ?_ NB234_254.out _; refine blk_far ?_ NB234_254.out _; refine blk_far ?_ NB234_254.out _; refine blk_far ?_ NB234_254.out _; (with_reducible repeat (first | refine blk_drewN ?_ _ | refine blk_drew ?_ | refine blk_alloc ?_ _)); exact BK234.out) hb); have n4_ := Aside0.mk (blk_below (g := gb245) (o := .cells #[.int .i64 t237, .int .i64 t238, .int .i64 t239, .int .i64 t240, .slice Ao24 t241.length co24] 46 (0, 0)) (by (with_reducible repeat (first | refine blk_drewN ?_ _ | refine blk_drew ?_ | refine blk_alloc ?_ _)); refine blk_far ?_ NB245_254.out _; refine blk_far ?_ NB245_254.out _; refine blk_far ?_ NB245_254.out _; refine blk_far ?_ NB245_254.out _; refine blk_far ?_ NB245_254.out _; (with_reducible repeat (first | refine blk_drewN ?_ _ | refine blk_drew ?_ | refine blk_alloc ?_ _)); exact BK245.out) hb); have n5_ := Aside0.mk (blk_below (g := gb254) (o := .cells #[.int .i64 t246, .int .i64 t247, .int .i64 t248, .int .i64 t249, .slice Ao31 t250.length co31] 46 (0, 0)) (by (with_reducible repeat (first | refine blk_drewN ?_ _ | refine blk_drew ?_ | refine blk_alloc ?_ _)); refine blk_put (cs := #[.int .i64 t246, .int .i64 t247, .int .i64 t248, .int .i64 t249, .slice none 0 0]) ?_ 4 _ rfl; refine blk_put (cs := #[.int .i64 t246, .int .i64 t247, .int .i64 t248, .int .i64 0, .slice none 0 0]) ?_ 3 _ rfl; refine blk_put (cs := #[.int .i64 t246, .int .i64 t247, .int .i64 0, .int .i64 0, .slice none 0 0]) ?_ 2 _ rfl; refine blk_put (cs := #[.int .i64 t246, .int .i64 0, .int .i64 0, .int .i64 0, .slice none 0 0]) ?_ 1 _ rfl; refine blk_put (cs := #[.int .i64 0, .int .i64 0, .int .i64 0, .int .i64 0, .slice none 0 0]) ?_ 0 _ rfl; (with_reducible repeat (first | refine blk_drewN ?_ _ | refine blk_drew ?_ | refine blk_alloc ?_ _)); exact BK254.out) hb); have n6_ := Cz.bs (w := w) hb; clear HO243; clear HO252; clear BK234; clear BK245; clear BK254; clear HB; have HO243 := n0_; have HO252 := n1_; have HO257 := n2_; have BK234 := n3_; have BK245 := n4_; have BK254 := n5_; have HB := n6_; clear n0_ n1_ n2_ n3_ n4_ n5_ n6_; (try clear hb); (try clear hb2); (try clear hk); (try clear hi); (try clear ho0); obtain ⟨hcz34_0, hcz34_1, hcz34_2, hcz34_3, hcz34_4, hfz34_0, hfz34_1, hfz34_2, hfz34_3, hfz34_4⟩ := Cz.d5 BK254) | (go_at_call 40; (with_reducible refine (extent_Bytes.calls t246 t247 t248 t249 _ _ t250 t258 _ ?side1 ?side2 A17.out).mono ?_); (case side1 => repeat (first | exact (Kd.R_reads' HO252.out).2.2 | (with_reducible refine Kd.C_alloc ?_ _) | (with_reducible refine Kd.C_drewN ?_ _) | (with_reducible refine Kd.C_drew ?_))); (case side2 => exact (Kd.R_reads' HO252.out).2.1); rintro e w35 ⟨v259, rfl, ho0, hb⟩; have n0_ := Aside0.mk (Kd.R_elder' (by (with_reducible repeat (first | apply Kd.R_alloc | apply Kd.R_drewN | apply Kd.R_drew)); exact HO243.out) (Kd.R_base ho0) hb); have n1_ := Aside0.mk (Kd.R_elder' (by (with_reducible repeat (first | apply Kd.R_alloc | apply Kd.R_drewN | apply Kd.R_drew)); exact HO252.out) (Kd.R_base ho0) hb); have n2_ := Aside0.mk (Kd.R_elder' (by (with_reducible repeat (first | apply Kd.R_alloc | apply Kd.R_drewN | apply Kd.R_drew)); exact HO257.out) (Kd.R_base ho0) hb); have n3_ := Aside0.mk (Kd.R_lower (Kd.R_new' (Kd.R_new' (Kd.R_new' ho0 (Kd.R_lt (by (with_reducible repeat (first | apply Kd.R_alloc | apply Kd.R_drewN | apply Kd.R_drew)); exact HO243.out))) (Kd.R_lt (by (with_reducible repeat (first | apply Kd.R_alloc | apply Kd.R_drewN | apply Kd.R_drew)); exact HO252.out))) (Kd.R_lt (by (with_reducible repeat (first | apply Kd.R_alloc | apply Kd.R_drewN | apply Kd.R_drew)); exact HO257.out))) (below_size (by repeat (first | (with_reducible first | exact HB.out | apply below_alloc | apply pw_below_drewN | apply below_drew1 | refine below_set ?_ GE234.out | refine below_set ?_ GE245.out | refine below_set ?_ GE254.out) | exact HB.out)))); have n4_ := Cz.bk BK234 hb; have n5_ := Cz.bk BK245 hb; have n6_ := Cz.bk BK254 hb; have n7_ := Cz.bs (w := w) hb; clear HO243; clear HO252; clear HO257; clear BK234; clear BK245; clear BK254; clear HB; have HO243 := n0_; have HO252 := n1_; have HO257 := n2_; have HO260 := n3_; have BK234 := n4_; have BK245 := n5_; have BK254 := n6_; have HB := n7_; clear n0_ n1_ n2_ n3_ n4_ n5_ n6_ n7_; (try clear hb); (try clear hb2); (try clear hk); (try clear hi); (try clear ho0))); go_upto_region 8 with (first | (go_at_call 33; (with_reducible refine (extent_Cut.calls a0_0 a0_1 a0_2 a0_3 _ _ l0_4 0 64 t237 t238 t239 t240 t241 t244 _ ?side1 ?side2 A14.out).mono ?_); (case side1 => exact Cz.cb HR0_4); (case side2 => exact HC0_4.out); rintro e w20 ⟨v242, rfl, ho0, hb⟩; have n0_ := Aside0.mk (Kd.R_lower ho0 (below_size (by repeat (first | (with_reducible first | exact HB.out | apply below_alloc | apply pw_below_drewN | apply below_drew1 | refine below_set ?_ GE234.out) | exact HB.out)))); have n1_ := Cz.bk BK234 hb; have n2_ := Cz.bs (w := w) hb; clear BK234; clear HB; have HO243 := n0_; have BK234 := n1_; have HB := n2_; clear n0_ n1_ n2_; (try clear hb); (try clear hb2); (try clear hk); (try clear hi); (try clear ho0)) | ((with_reducible refine gate_dst (N := 8) rfl ?_); (try (refine gate_guard (by rfl) ?_; dsimp only)); refine box_event ?hg (N := 8) ?hd (cs := #[.int .i64 0, .int .i64 0, .int .i64 0, .int .i64 0, .slice none 0 0]) (t := 46) ?hr ?_; (case hd => rfl); (case hg => rfl); (case hr => first | (go_simp; done) | (go_simp; rfl)); intro gb245 hg w21 hbox hb; have n0_ := Cz.rb HO243 hb; have n1_ := Cz.bk BK234 hb; have n2_ := Cz.bs (w := w) hb; have n3_ := Aside0.mk (hbox); have n4_ := Aside0.mk ((Cz.gs hg : w.heap.size ≤ gb245)); have n5_ := Aside0.mk ((Cz.gs hg : w.heap.size ≤ gb245)); have n6_ := Aside0.mk ((Cz.nl BK234 hg : gb234 ≠ gb245)); have n7_ := Aside0.mk ((Cz.nr BK234 hg : gb245 ≠ gb234)); clear HO243; clear BK234; clear HB; have HO243 := n0_; have BK234 := n1_; have HB := n2_; have BK245 := n3_; have GW245 := n4_; have GE245 := n5_; have NB234_245 := n6_; have NB245_234 := n7_; clear n0_ n1_ n2_ n3_ n4_ n5_ n6_ n7_; clear hb hbox hg; have hnb22 := NB245_234.out; have hnc22 := NB234_245.out; obtain ⟨hcz23_0, hcz23_1, hcz23_2, hcz23_3, hcz23_4, hfz23_0, hfz23_1, hfz23_2, hfz23_3, hfz23_4⟩ := Cz.d5 BK245; obtain ⟨Ao24, co24, eo24⟩ := Kd.R_slice HO243.out; subst eo24; obtain ⟨hcz25_0, hcz25_1, hcz25_2, hcz25_3, hcz25_4, hfz25_0, hfz25_1, hfz25_2, hfz25_3, hfz25_4⟩ := Cz.d5 BK234) | (go_at_call 33; (with_reducible refine (extent_Cut.calls a0_0 a0_1 a0_2 a0_3 _ _ l0_4 a1 a2 t246 t247 t248 t249 t250 t253 _ ?side1 ?side2 A15.out).mono ?_); (case side1 => exact Kd.C_below HR0_4.out (by repeat (first | (with_reducible first | exact HB.out | apply below_alloc | apply pw_below_drewN | apply below_drew1 | refine below_set ?_ GE234.out | refine below_set ?_ GE245.out) | exact HB.out))); (case side2 => exact HC0_4.out); rintro e w26 ⟨v251, rfl, ho0, hb⟩; have n0_ := Aside0.mk (Kd.R_elder' (by (with_reducible repeat (first | apply Kd.R_alloc | apply Kd.R_drewN | apply Kd.R_drew)); exact (Kd.R_mono (Kd.R_far (p := ⟨gb245, 4, none⟩) (Kd.R_far (p := ⟨gb245, 3, none⟩) (Kd.R_far (p := ⟨gb245, 2, none⟩) (Kd.R_far (p := ⟨gb245, 1, none⟩) (Kd.R_far (p := ⟨gb245, 0, none⟩) (Kd.R_types HO243.out BK245.out (by decide)) (fun _ hk => hk.2) (.int .i64 t237)) (fun _ hk => hk.2) (.int .i64 t238)) (fun _ hk => hk.2) (.int .i64 t239)) (fun _ hk => hk.2) (.int .i64 t240)) (fun _ hk => hk.2) (.slice Ao24 t241.length co24)) (fun _ h_ => h_.1))) (Kd.R_base ho0) hb); have n1_ := Aside0.mk (Kd.R_lower (Kd.R_new' ho0 (Kd.R_lt (by (with_reducible repeat (first | apply Kd.R_alloc | apply Kd.R_drewN | apply Kd.R_drew)); exact (Kd.R_mono (Kd.R_far (p := ⟨gb245, 4, none⟩) (Kd.R_far (p := ⟨gb245, 3, none⟩) (Kd.R_far (p := ⟨gb245, 2, none⟩) (Kd.R_far (p := ⟨gb245, 1, none⟩) (Kd.R_far (p := ⟨gb245, 0, none⟩) (Kd.R_types HO243.out BK245.out (by decide)) (fun _ hk => hk.2) (.int .i64 t237)) (fun _ hk => hk.2) (.int .i64 t238)) (fun _ hk => hk.2) (.int .i64 t239)) (fun _ hk => hk.2) (.int .i64 t240)) (fun _ hk => hk.2) (.slice Ao24 t241.length co24)) (fun _ h_ => h_.1))))) (below_size (by repeat (first | (with_reducible first | exact HB.out | apply below_alloc | apply pw_below_drewN | apply below_drew1 | refine below_set ?_ GE234.out | refine below_set ?_ GE245.out) | exact HB.out)))); have n2_ := Aside0.mk (blk_below (g := gb234) (o := .cells #[.int .i64 a0_0, .int .i64 a0_1, .int .i64 a0_2, .int .i64 a0_3, .slice A0_4 l0_4.length c0_4] 46 (0, 0)) (by (with_reducible repeat (first | refine blk_drewN ?_ _ | refine blk_drew ?_ | refine blk_alloc ?_ _)); refine blk_far ?_ NB234_245.out _; refine blk_far ?_ NB234_245.out _; refine blk_far ?_ NB234_245.out _; refine blk_far ?_ NB234_245.out _; refine blk_far ?_ NB234_245.out _; (with_reducible repeat (first | refine blk_drewN ?_ _ | refine blk_drew ?_ | refine blk_alloc ?_ _)); exact BK234.out) hb); have n3_ := Aside0.mk (blk_below (g := gb245) (o := .cells #[.int .i64 t237, .int .i64 t238, .int .i64 t239, .int .i64 t240, .slice Ao24 t241.length co24] 46 (0, 0)) (by (with_reducible repeat (first | refine blk_drewN ?_ _ | refine blk_drew ?_ | refine blk_alloc ?_ _)); refine blk_put (cs := #[.int .i64 t237, .int .i64 t238, .int .i64 t239, .int .i64 t240, .slice none 0 0]) ?_ 4 _ rfl; refine blk_put (cs := #[.int .i64 t237, .int .i64 t238, .int .i64 t239, .int .i64 0, .slice none 0 0]) ?_ 3 _ rfl; refine blk_put (cs := #[.int .i64 t237, .int .i64 t238, .int .i64 0, .int .i64 0, .slice none 0 0]) ?_ 2 _ rfl; refine blk_put (cs := #[.int .i64 t237, .int .i64 0, .int .i64 0, .int .i64 0, .slice none 0 0]) ?_ 1 _ rfl; refine blk_put (cs := #[.int .i64 0, .int .i64 0, .int .i64 0, .int .i64 0, .slice none 0 0]) ?_ 0 _ rfl; (with_reducible repeat (first | refine blk_drewN ?_ _ | refine blk_drew ?_ | refine blk_alloc ?_ _)); exact BK245.out) hb); have n4_ := Cz.bs (w := w) hb; clear HO243; clear BK234; clear BK245; clear HB; have HO243 := n0_; have HO252 := n1_; have BK234 := n2_; have BK245 := n3_; have HB := n4_; clear n0_ n1_ n2_ n3_ n4_; (try clear hb); (try clear hb2); (try clear hk); (try clear hi); (try clear ho0)) | ((with_reducible refine gate_dst (N := 10) rfl ?_); (try (refine gate_guard (by rfl) ?_; dsimp only)); refine box_event ?hg (N := 10) ?hd (cs := #[.int .i64 0, .int .i64 0, .int .i64 0, .int .i64 0, .slice none 0 0]) (t := 46) ?hr ?_; (case hd => rfl); (case hg => rfl); (case hr => first | (go_simp; done) | (go_simp; rfl)); intro gb254 hg w27 hbox hb; have n0_ := Cz.rb HO243 hb; have n1_ := Cz.rb HO252 hb; have n2_ := Cz.bk BK234 hb; have n3_ := Cz.bk BK245 hb; have n4_ := Cz.bs (w := w) hb; have n5_ := Aside0.mk (hbox); have n6_ := Aside0.mk ((Cz.gs hg : w.heap.size ≤ gb254)); have n7_ := Aside0.mk ((Cz.gs hg : w.heap.size ≤ gb254)); have n8_ := Aside0.mk ((Cz.nl BK234 hg : gb234 ≠ gb254)); have n9_ := Aside0.mk ((Cz.nr BK234 hg : gb254 ≠ gb234)); have n10_ := Aside0.mk ((Cz.nl BK245 hg : gb245 ≠ gb254)); have n11_ := Aside0.mk ((Cz.nr BK245 hg : gb254 ≠ gb245)); clear HO243; clear HO252; clear BK234; clear BK245; clear HB; have HO243 := n0_; have HO252 := n1_; have BK234 := n2_; have BK245 := n3_; have HB := n4_; have BK254 := n5_; have GW254 := n6_; have GE254 := n7_; have NB234_254 := n8_; have NB254_234 := n9_; have NB245_254 := n10_; have NB254_245 := n11_; clear n0_ n1_ n2_ n3_ n4_ n5_ n6_ n7_ n8_ n9_ n10_ n11_; clear hb hbox hg; have hnb28 := NB254_234.out; have hnc28 := NB234_254.out; have hnb29 := NB254_245.out; have hnc29 := NB245_254.out; obtain ⟨hcz30_0, hcz30_1, hcz30_2, hcz30_3, hcz30_4, hfz30_0, hfz30_1, hfz30_2, hfz30_3, hfz30_4⟩ := Cz.d5 BK254; obtain ⟨Ao31, co31, eo31⟩ := Kd.R_slice HO252.out; subst eo31; obtain ⟨hcz32_0, hcz32_1, hcz32_2, hcz32_3, hcz32_4, hfz32_0, hfz32_1, hfz32_2, hfz32_3, hfz32_4⟩ := Cz.d5 BK234) | (go_at_call 40; (with_reducible refine (extent_Bytes.calls a0_0 a0_1 a0_2 a0_3 _ _ l0_4 t255 _ ?side1 ?side2 A16.out).mono ?_); (case side1 => exact Kd.C_below HR0_4.out (by repeat (first | (with_reducible first | exact HB.out | apply below_alloc | apply pw_below_drewN | apply below_drew1 | refine below_set ?_ GE234.out | refine below_set ?_ GE245.out | refine below_set ?_ GE254.out) | exact HB.out))); (case side2 => exact HC0_4.out); rintro e w33 ⟨v256, rfl, ho0, hb⟩; have n0_ := Aside0.mk (Kd.R_elder' (by (with_reducible repeat (first | apply Kd.R_alloc | apply Kd.R_drewN | apply Kd.R_drew)); exact (Kd.R_mono (Kd.R_far (p := ⟨gb254, 4, none⟩) (Kd.R_far (p := ⟨gb254, 3, none⟩) (Kd.R_far (p := ⟨gb254, 2, none⟩) (Kd.R_far (p := ⟨gb254, 1, none⟩) (Kd.R_far (p := ⟨gb254, 0, none⟩) (Kd.R_types HO243.out BK254.out (by decide)) (fun _ hk => hk.2) (.int .i64 t246)) (fun _ hk => hk.2) (.int .i64 t247)) (fun _ hk => hk.2) (.int .i64 t248)) (fun _ hk => hk.2) (.int .i64 t249)) (fun _ hk => hk.2) (.slice Ao31 t250.length co31)) (fun _ h_ => h_.1))) (Kd.R_base ho0) hb); have n1_ := Aside0.mk (Kd.R_elder' (by (with_reducible repeat (first | apply Kd.R_alloc | apply Kd.R_drewN | apply Kd.R_drew)); exact (Kd.R_mono (Kd.R_far (p := ⟨gb254, 4, none⟩) (Kd.R_far (p := ⟨gb254, 3, none⟩) (Kd.R_far (p := ⟨gb254, 2, none⟩) (Kd.R_far (p := ⟨gb254, 1, none⟩) (Kd.R_far (p := ⟨gb254, 0, none⟩) (Kd.R_types HO252.out BK254.out (by decide)) (fun _ hk => hk.2) (.int .i64 t246)) (fun _ hk => hk.2) (.int .i64 t247)) (fun _ hk => hk.2) (.int .i64 t248)) (fun _ hk => hk.2) (.int .i64 t249)) (fun _ hk => hk.2) (.slice Ao31 t250.length co31)) (fun _ h_ => h_.1))) (Kd.R_base ho0) hb); have n2_ := Aside0.mk (Kd.R_lower (Kd.R_new' (Kd.R_new' ho0 (Kd.R_lt (by (with_reducible repeat (first | apply Kd.R_alloc | apply Kd.R_drewN | apply Kd.R_drew)); exact (Kd.R_mono (Kd.R_far (p := ⟨gb254, 4, none⟩) (Kd.R_far (p := ⟨gb254, 3, none⟩) (Kd.R_far (p := ⟨gb254, 2, none⟩) (Kd.R_far (p := ⟨gb254, 1, none⟩) (Kd.R_far (p := ⟨gb254, 0, none⟩) (Kd.R_types HO243.out BK254.out (by decide)) (fun _ hk => hk.2) (.int .i64 t246)) (fun _ hk => hk.2) (.int .i64 t247)) (fun _ hk => hk.2) (.int .i64 t248)) (fun _ hk => hk.2) (.int .i64 t249)) (fun _ hk => hk.2) (.slice Ao31 t250.length co31)) (fun _ h_ => h_.1))))) (Kd.R_lt (by (with_reducible repeat (first | apply Kd.R_alloc | apply Kd.R_drewN | apply Kd.R_drew)); exact (Kd.R_mono (Kd.R_far (p := ⟨gb254, 4, none⟩) (Kd.R_far (p := ⟨gb254, 3, none⟩) (Kd.R_far (p := ⟨gb254, 2, none⟩) (Kd.R_far (p := ⟨gb254, 1, none⟩) (Kd.R_far (p := ⟨gb254, 0, none⟩) (Kd.R_types HO252.out BK254.out (by decide)) (fun _ hk => hk.2) (.int .i64 t246)) (fun _ hk => hk.2) (.int .i64 t247)) (fun _ hk => hk.2) (.int .i64 t248)) (fun _ hk => hk.2) (.int .i64 t249)) (fun _ hk => hk.2) (.slice Ao31 t250.length co31)) (fun _ h_ => h_.1))))) (below_size (by repeat (first | (with_reducible first | exact HB.out | apply below_alloc | apply pw_below_drewN | apply below_drew1 | refine below_set ?_ GE234.out | refine below_set ?_ GE245.out | refine below_set ?_ GE254.out) | exact HB.out)))); have n3_ := Aside0.mk (blk_below (g := gb234) (o := .cells #[.int .i64 a0_0, .int .i64 a0_1, .int .i64 a0_2, .int .i64 a0_3, .slice A0_4 l0_4.length c0_4] 46 (0, 0)) (by (with_reducible repeat (first | refine blk_drewN ?_ _ | refine blk_drew ?_ | refine blk_alloc ?_ _)); refine blk_far ?_ NB234_254.out _; refine blk_far ?_ NB234_254.out _; refine blk_far ?_ NB234_254.out _; refine blk_far ?_ NB234_254.out _; refine blk_far ?_ NB234_254.out _; (with_reducible repeat (first | refine blk_drewN ?_ _ | refine blk_drew ?_ | refine blk_alloc ?_ _)); exact BK234.out) hb); have n4_ := Aside0.mk (blk_below (g := gb245) (o := .cells #[.int .i64 t237, .int .i64 t238, .int .i64 t239, .int .i64 t240, .slice Ao24 t241.length co24] 46 (0, 0)) (by (with_reducible repeat (first | refine blk_drewN ?_ _ | refine blk_drew ?_ | refine blk_alloc ?_ _)); refine blk_far ?_ NB245_254.out _; refine blk_far ?_ NB245_254.out _; refine blk_far ?_ NB245_254.out _; refine blk_far ?_ NB245_254.out _; refine blk_far ?_ NB245_254.out _; (with_reducible repeat (first | refine blk_drewN ?_ _ | refine blk_drew ?_ | refine blk_alloc ?_ _)); exact BK245.out) hb); have n5_ := Aside0.mk (blk_below (g := gb254) (o := .cells #[.int .i64 t246, .int .i64 t247, .int .i64 t248, .int .i64 t249, .slice Ao31 t250.length co31] 46 (0, 0)) (by (with_reducible repeat (first | refine blk_drewN ?_ _ | refine blk_drew ?_ | refine blk_alloc ?_ _)); refine blk_put (cs := #[.int .i64 t246, .int .i64 t247, .int .i64 t248, .int .i64 t249, .slice none 0 0]) ?_ 4 _ rfl; refine blk_put (cs := #[.int .i64 t246, .int .i64 t247, .int .i64 t248, .int .i64 0, .slice none 0 0]) ?_ 3 _ rfl; refine blk_put (cs := #[.int .i64 t246, .int .i64 t247, .int .i64 0, .int .i64 0, .slice none 0 0]) ?_ 2 _ rfl; refine blk_put (cs := #[.int .i64 t246, .int .i64 0, .int .i64 0, .int .i64 0, .slice none 0 0]) ?_ 1 _ rfl; refine blk_put (cs := #[.int .i64 0, .int .i64 0, .int .i64 0, .int .i64 0, .slice none 0 0]) ?_ 0 _ rfl; (with_reducible repeat (first | refine blk_drewN ?_ _ | refine blk_drew ?_ | refine blk_alloc ?_ _)); exact BK254.out) hb); have n6_ := Cz.bs (w := w) hb; clear HO243; clear HO252; clear BK234; clear BK245; clear BK254; clear HB; have HO243 := n0_; have HO252 := n1_; have HO257 := n2_; have BK234 := n3_; have BK245 := n4_; have BK254 := n5_; have HB := n6_; clear n0_ n1_ n2_ n3_ n4_ n5_ n6_; (try clear hb); (try clear hb2); (try clear hk); (try clear hi); (try clear ho0); obtain ⟨hcz34_0, hcz34_1, hcz34_2, hcz34_3, hcz34_4, hfz34_0, hfz34_1, hfz34_2, hfz34_3, hfz34_4⟩ := Cz.d5 BK254) | (go_at_call 40; (with_reducible refine (extent_Bytes.calls t246 t247 t248 t249 _ _ t250 t258 _ ?side1 ?side2 A17.out).mono ?_); (case side1 => repeat (first | exact (Kd.R_reads' HO252.out).2.2 | (with_reducible refine Kd.C_alloc ?_ _) | (with_reducible refine Kd.C_drewN ?_ _) | (with_reducible refine Kd.C_drew ?_))); (case side2 => exact (Kd.R_reads' HO252.out).2.1); rintro e w35 ⟨v259, rfl, ho0, hb⟩; have n0_ := Aside0.mk (Kd.R_elder' (by (with_reducible repeat (first | apply Kd.R_alloc | apply Kd.R_drewN | apply Kd.R_drew)); exact HO243.out) (Kd.R_base ho0) hb); have n1_ := Aside0.mk (Kd.R_elder' (by (with_reducible repeat (first | apply Kd.R_alloc | apply Kd.R_drewN | apply Kd.R_drew)); exact HO252.out) (Kd.R_base ho0) hb); have n2_ := Aside0.mk (Kd.R_elder' (by (with_reducible repeat (first | apply Kd.R_alloc | apply Kd.R_drewN | apply Kd.R_drew)); exact HO257.out) (Kd.R_base ho0) hb); have n3_ := Aside0.mk (Kd.R_lower (Kd.R_new' (Kd.R_new' (Kd.R_new' ho0 (Kd.R_lt (by (with_reducible repeat (first | apply Kd.R_alloc | apply Kd.R_drewN | apply Kd.R_drew)); exact HO243.out))) (Kd.R_lt (by (with_reducible repeat (first | apply Kd.R_alloc | apply Kd.R_drewN | apply Kd.R_drew)); exact HO252.out))) (Kd.R_lt (by (with_reducible repeat (first | apply Kd.R_alloc | apply Kd.R_drewN | apply Kd.R_drew)); exact HO257.out))) (below_size (by repeat (first | (with_reducible first | exact HB.out | apply below_alloc | apply pw_below_drewN | apply below_drew1 | refine below_set ?_ GE234.out | refine below_set ?_ GE245.out | refine below_set ?_ GE254.out) | exact HB.out)))); have n4_ := Cz.bk BK234 hb; have n5_ := Cz.bk BK245 hb; have n6_ := Cz.bk BK254 hb; have n7_ := Cz.bs (w := w) hb; clear HO243; clear HO252; clear HO257; clear BK234; clear BK245; clear BK254; clear HB; have HO243 := n0_; have HO252 := n1_; have HO257 := n2_; have HO260 := n3_; have BK234 := n4_; have BK245 := n5_; have BK254 := n6_; have HB := n7_; clear n0_ n1_ n2_ n3_ n4_ n5_ n6_ n7_; (try clear hb); (try clear hb2); (try clear hk); (try clear hi); (try clear ho0))))
    (try simp only [Act.put, Kx.sb, Kx.sz, Kx.ss])
    go_cut [88] (fun v88 wc => ∃ (kq : Nat) (x88_17 : Bool), v88 = .bool x88_17 ∧ Aside0 (waggonerlaw07_ExtentCuts.j1 kq a1 a2 t235 t253 t255 t258 x88_17 a0_0 a0_1 a0_2 a0_3 l0_4 t246 t247 t248 t249 t250 = some true) ∧ Aside0 (kq ≤ kj4) ∧ Aside0 (Kd.R (Kd.int .u8) 5 wc w.heap.size (fun k_ => some k_ ≠ (v259 : Value).ownBlock ∧ some k_ ≠ ((.slice Ao24 t241.length co24) : Value).ownBlock ∧ some k_ ≠ ((.slice Ao31 t250.length co31) : Value).ownBlock) v256 t255) ∧ Aside0 (Kd.R (Kd.int .u8) 5 wc w.heap.size (fun k_ => some k_ ≠ (v256 : Value).ownBlock ∧ some k_ ≠ ((.slice Ao24 t241.length co24) : Value).ownBlock ∧ some k_ ≠ ((.slice Ao31 t250.length co31) : Value).ownBlock) v259 t258) ∧ Aside0 (Kd.R (Kd.int .u8) 5 wc w.heap.size (fun k_ => some k_ ≠ (v256 : Value).ownBlock ∧ some k_ ≠ (v259 : Value).ownBlock ∧ some k_ ≠ ((.slice Ao31 t250.length co31) : Value).ownBlock) (.slice Ao24 t241.length co24) t241) ∧ Aside0 (Kd.R (Kd.int .u8) 5 wc w.heap.size (fun k_ => some k_ ≠ (v256 : Value).ownBlock ∧ some k_ ≠ (v259 : Value).ownBlock ∧ some k_ ≠ ((.slice Ao24 t241.length co24) : Value).ownBlock) (.slice Ao31 t250.length co31) t250) ∧ Aside0 (wc.heap[gb234]? = some (.cells #[.int .i64 a0_0, .int .i64 a0_1, .int .i64 a0_2, .int .i64 a0_3, (.slice A0_4 l0_4.length c0_4)] 46 (0, 0))) ∧ Aside0 (wc.heap[gb245]? = some (.cells #[.int .i64 t237, .int .i64 t238, .int .i64 t239, .int .i64 t240, (.slice Ao24 t241.length co24)] 46 (0, 0))) ∧ Aside0 (wc.heap[gb254]? = some (.cells #[.int .i64 t246, .int .i64 t247, .int .i64 t248, .int .i64 t249, (.slice Ao31 t250.length co31)] 46 (0, 0))) ∧ Aside0 (Below w.heap.size w wc))
    case first =>
     have H := HC18.out
     clear HC18
     by_cases c36 : t244 = true
     ·subst c36
      rw [if_pos rfl] at H
      by_cases c37 : t237 = a0_0
      ·rw [if_pos c37] at H
       have c37b0 : (t237 == a0_0) = true := beq_iff_eq.mpr c37
       have c37b1 : (t237 != a0_0) = false := bne_eq_false_iff_eq.mpr c37
       clear c37
       (first | rw [c37b0] | (simp only [i64_w, i32_w]; rw [c37b0]) | skip)
       by_cases c38 : t238 = a0_1
       ·rw [if_pos c38] at H
        have c38b0 : (t238 == a0_1) = true := beq_iff_eq.mpr c38
        have c38b1 : (t238 != a0_1) = false := bne_eq_false_iff_eq.mpr c38
        clear c38
        by_cases c39 : t239 = a0_2
        ·rw [if_pos c39] at H
         have c39b0 : (t239 == a0_2) = true := beq_iff_eq.mpr c39
         have c39b1 : (t239 != a0_2) = false := bne_eq_false_iff_eq.mpr c39
         clear c39
         by_cases c40 : t240 = a0_3
         ·rw [if_pos c40] at H
          have c40b0 : (t240 == a0_3) = true := beq_iff_eq.mpr c40
          have c40b1 : (t240 != a0_3) = false := bne_eq_false_iff_eq.mpr c40
          clear c40
          by_cases c41 : (strOfNums t241).toList = (strOfNums l0_4).toList
          ·rw [if_pos c41] at H
           have c41b0 : ((strOfNums t241).toList == (strOfNums l0_4).toList) = true := beq_iff_eq.mpr c41
           have c41b1 : ((strOfNums t241).toList != (strOfNums l0_4).toList) = false := bne_eq_false_iff_eq.mpr c41
           clear c41
           have H' := Aside0.mk H
           clear H
           have hnb42 := NB245_234.out
           have hnc42 := NB234_245.out
           have hnb43 := NB245_254.out
           have hnc43 := NB254_245.out
           obtain ⟨hcz44_0, hcz44_1, hcz44_2, hcz44_3, hcz44_4, hfz44_0, hfz44_1, hfz44_2, hfz44_3, hfz44_4⟩ := Cz.d5 BK245
           have hnb45 := NB234_254.out
           have hnc45 := NB254_234.out
           obtain ⟨hcz46_0, hcz46_1, hcz46_2, hcz46_3, hcz46_4, hfz46_0, hfz46_1, hfz46_2, hfz46_3, hfz46_4⟩ := Cz.d5 BK234
           have hcv47 := own_string (P := Try.prog) Try.underlying23 Try.underlying5 Try.underlying9 (Kd.own_of_R HO243.out)
           (try have hcvd48 := fun (n_ : Nat) => own_string (P := Try.prog) Try.underlying23 Try.underlying5 Try.underlying9 (Kd.own_of_R (Kd.R_drewN HO243.out n_)))
           have hcv49 := Kd.C_string (P := Try.prog) (A := A0_4) (c := c0_4) Try.underlying23 Try.underlying5 Try.underlying9 (Kd.C_below HR0_4.out HB.out)
           (try have hcvd50 := fun (n_ : Nat) => Kd.C_string (P := Try.prog) (A := A0_4) (c := c0_4) Try.underlying23 Try.underlying5 Try.underlying9 (Kd.C_drewN (Kd.C_below HR0_4.out HB.out) n_))
           obtain ⟨Ao51, co51, eo51⟩ := Kd.R_slice HO257.out
           subst eo51
           go_wp2
           repeat (go_quiet (fail); try go_wp2)
           go_meet
           case rel => exact ⟨_, (((t255.length : Int) != (wrap64 (32 * a0_1)))), (by first | rfl | (simp; done) | (simp [*]; done)), H', ⟨by have := HJ4.out; first | omega | exact Nat.le_refl _⟩, ⟨by (with_reducible repeat (first | apply Kd.R_alloc | apply Kd.R_drewN | apply Kd.R_drew)); exact Kd.R_mono HO257.out (fun _ hk => ⟨hk.2, ⟨hk.1.1.2, hk.1.2⟩⟩)⟩, ⟨by (with_reducible repeat (first | apply Kd.R_alloc | apply Kd.R_drewN | apply Kd.R_drew)); exact Kd.R_mono HO260.out (fun _ hk => ⟨hk.2, ⟨hk.1.1.2, hk.1.2⟩⟩)⟩, ⟨by (with_reducible repeat (first | apply Kd.R_alloc | apply Kd.R_drewN | apply Kd.R_drew)); exact Kd.R_mono HO243.out (fun _ hk => ⟨hk.1.2, ⟨hk.2, hk.1.1.2⟩⟩)⟩, ⟨by (with_reducible repeat (first | apply Kd.R_alloc | apply Kd.R_drewN | apply Kd.R_drew)); exact Kd.R_mono HO252.out (fun _ hk => ⟨hk.1.2, ⟨hk.2, hk.1.1.2⟩⟩)⟩, ⟨by (with_reducible repeat (first | refine blk_drewN ?_ _ | refine blk_drew ?_ | refine blk_alloc ?_ _)); exact BK234.out⟩, ⟨by (with_reducible repeat (first | refine blk_drewN ?_ _ | refine blk_drew ?_ | refine blk_alloc ?_ _)); exact BK245.out⟩, ⟨by (with_reducible repeat (first | refine blk_drewN ?_ _ | refine blk_drew ?_ | refine blk_alloc ?_ _)); exact BK254.out⟩, ⟨by repeat (first | (with_reducible first | exact HB.out | apply below_alloc | apply pw_below_drewN | apply below_drew1 | refine below_set ?_ GE234.out | refine below_set ?_ GE245.out | refine below_set ?_ GE254.out) | exact HB.out)⟩⟩
          ·rw [if_neg c41] at H
           have c41b0 : ((strOfNums t241).toList == (strOfNums l0_4).toList) = false := beq_eq_false_iff_ne.mpr c41
           have c41b1 : ((strOfNums t241).toList != (strOfNums l0_4).toList) = true := bne_iff_ne.mpr c41
           have H' := Aside0.mk H
           clear H
           have hnb52 := NB245_234.out
           have hnc52 := NB234_245.out
           have hnb53 := NB245_254.out
           have hnc53 := NB254_245.out
           obtain ⟨hcz54_0, hcz54_1, hcz54_2, hcz54_3, hcz54_4, hfz54_0, hfz54_1, hfz54_2, hfz54_3, hfz54_4⟩ := Cz.d5 BK245
           have hnb55 := NB234_254.out
           have hnc55 := NB254_234.out
           obtain ⟨hcz56_0, hcz56_1, hcz56_2, hcz56_3, hcz56_4, hfz56_0, hfz56_1, hfz56_2, hfz56_3, hfz56_4⟩ := Cz.d5 BK234
           have hcv57 := own_string (P := Try.prog) Try.underlying23 Try.underlying5 Try.underlying9 (Kd.own_of_R HO243.out)
           (try have hcvd58 := fun (n_ : Nat) => own_string (P := Try.prog) Try.underlying23 Try.underlying5 Try.underlying9 (Kd.own_of_R (Kd.R_drewN HO243.out n_)))
           have hcv59 := Kd.C_string (P := Try.prog) (A := A0_4) (c := c0_4) Try.underlying23 Try.underlying5 Try.underlying9 (Kd.C_below HR0_4.out HB.out)
           (try have hcvd60 := fun (n_ : Nat) => Kd.C_string (P := Try.prog) (A := A0_4) (c := c0_4) Try.underlying23 Try.underlying5 Try.underlying9 (Kd.C_drewN (Kd.C_below HR0_4.out HB.out) n_))
           go_wp2
           repeat (go_quiet (fail); try go_wp2)
           go_meet
           case rel => exact ⟨_, (true), (by first | rfl | (simp; done) | (simp [*]; done)), H', ⟨by have := HJ4.out; first | omega | exact Nat.le_refl _⟩, ⟨by (with_reducible repeat (first | apply Kd.R_alloc | apply Kd.R_drewN | apply Kd.R_drew)); exact Kd.R_mono HO257.out (fun _ hk => ⟨hk.2, ⟨hk.1.1.2, hk.1.2⟩⟩)⟩, ⟨by (with_reducible repeat (first | apply Kd.R_alloc | apply Kd.R_drewN | apply Kd.R_drew)); exact Kd.R_mono HO260.out (fun _ hk => ⟨hk.2, ⟨hk.1.1.2, hk.1.2⟩⟩)⟩, ⟨by (with_reducible repeat (first | apply Kd.R_alloc | apply Kd.R_drewN | apply Kd.R_drew)); exact Kd.R_mono HO243.out (fun _ hk => ⟨hk.1.2, ⟨hk.2, hk.1.1.2⟩⟩)⟩, ⟨by (with_reducible repeat (first | apply Kd.R_alloc | apply Kd.R_drewN | apply Kd.R_drew)); exact Kd.R_mono HO252.out (fun _ hk => ⟨hk.1.2, ⟨hk.2, hk.1.1.2⟩⟩)⟩, ⟨by (with_reducible repeat (first | refine blk_drewN ?_ _ | refine blk_drew ?_ | refine blk_alloc ?_ _)); exact BK234.out⟩, ⟨by (with_reducible repeat (first | refine blk_drewN ?_ _ | refine blk_drew ?_ | refine blk_alloc ?_ _)); exact BK245.out⟩, ⟨by (with_reducible repeat (first | refine blk_drewN ?_ _ | refine blk_drew ?_ | refine blk_alloc ?_ _)); exact BK254.out⟩, ⟨by repeat (first | (with_reducible first | exact HB.out | apply below_alloc | apply pw_below_drewN | apply below_drew1 | refine below_set ?_ GE234.out | refine below_set ?_ GE245.out | refine below_set ?_ GE254.out) | exact HB.out)⟩⟩
         ·rw [if_neg c40] at H
          have c40b0 : (t240 == a0_3) = false := beq_eq_false_iff_ne.mpr c40
          have c40b1 : (t240 != a0_3) = true := bne_iff_ne.mpr c40
          have H' := Aside0.mk H
          clear H
          have hnb61 := NB245_234.out
          have hnc61 := NB234_245.out
          have hnb62 := NB245_254.out
          have hnc62 := NB254_245.out
          obtain ⟨hcz63_0, hcz63_1, hcz63_2, hcz63_3, hcz63_4, hfz63_0, hfz63_1, hfz63_2, hfz63_3, hfz63_4⟩ := Cz.d5 BK245
          have hnb64 := NB234_254.out
          have hnc64 := NB254_234.out
          obtain ⟨hcz65_0, hcz65_1, hcz65_2, hcz65_3, hcz65_4, hfz65_0, hfz65_1, hfz65_2, hfz65_3, hfz65_4⟩ := Cz.d5 BK234
          go_wp2
          repeat (go_quiet (fail); try go_wp2)
          go_meet
          case rel => exact ⟨_, (true), (by first | rfl | (simp; done) | (simp [*]; done)), H', ⟨by have := HJ4.out; first | omega | exact Nat.le_refl _⟩, ⟨by (with_reducible repeat (first | apply Kd.R_alloc | apply Kd.R_drewN | apply Kd.R_drew)); exact Kd.R_mono HO257.out (fun _ hk => ⟨hk.2, ⟨hk.1.1.2, hk.1.2⟩⟩)⟩, ⟨by (with_reducible repeat (first | apply Kd.R_alloc | apply Kd.R_drewN | apply Kd.R_drew)); exact Kd.R_mono HO260.out (fun _ hk => ⟨hk.2, ⟨hk.1.1.2, hk.1.2⟩⟩)⟩, ⟨by (with_reducible repeat (first | apply Kd.R_alloc | apply Kd.R_drewN | apply Kd.R_drew)); exact Kd.R_mono HO243.out (fun _ hk => ⟨hk.1.2, ⟨hk.2, hk.1.1.2⟩⟩)⟩, ⟨by (with_reducible repeat (first | apply Kd.R_alloc | apply Kd.R_drewN | apply Kd.R_drew)); exact Kd.R_mono HO252.out (fun _ hk => ⟨hk.1.2, ⟨hk.2, hk.1.1.2⟩⟩)⟩, ⟨by (with_reducible repeat (first | refine blk_drewN ?_ _ | refine blk_drew ?_ | refine blk_alloc ?_ _)); exact BK234.out⟩, ⟨by (with_reducible repeat (first | refine blk_drewN ?_ _ | refine blk_drew ?_ | refine blk_alloc ?_ _)); exact BK245.out⟩, ⟨by (with_reducible repeat (first | refine blk_drewN ?_ _ | refine blk_drew ?_ | refine blk_alloc ?_ _)); exact BK254.out⟩, ⟨by repeat (first | (with_reducible first | exact HB.out | apply below_alloc | apply pw_below_drewN | apply below_drew1 | refine below_set ?_ GE234.out | refine below_set ?_ GE245.out | refine below_set ?_ GE254.out) | exact HB.out)⟩⟩
        ·rw [if_neg c39] at H
         have c39b0 : (t239 == a0_2) = false := beq_eq_false_iff_ne.mpr c39
         have c39b1 : (t239 != a0_2) = true := bne_iff_ne.mpr c39
         have H' := Aside0.mk H
         clear H
         have hnb66 := NB245_234.out
         have hnc66 := NB234_245.out
         have hnb67 := NB245_254.out
         have hnc67 := NB254_245.out
         obtain ⟨hcz68_0, hcz68_1, hcz68_2, hcz68_3, hcz68_4, hfz68_0, hfz68_1, hfz68_2, hfz68_3, hfz68_4⟩ := Cz.d5 BK245
         have hnb69 := NB234_254.out
         have hnc69 := NB254_234.out
         obtain ⟨hcz70_0, hcz70_1, hcz70_2, hcz70_3, hcz70_4, hfz70_0, hfz70_1, hfz70_2, hfz70_3, hfz70_4⟩ := Cz.d5 BK234
         go_wp2
         repeat (go_quiet (fail); try go_wp2)
         go_meet
         case rel => exact ⟨_, (true), (by first | rfl | (simp; done) | (simp [*]; done)), H', ⟨by have := HJ4.out; first | omega | exact Nat.le_refl _⟩, ⟨by (with_reducible repeat (first | apply Kd.R_alloc | apply Kd.R_drewN | apply Kd.R_drew)); exact Kd.R_mono HO257.out (fun _ hk => ⟨hk.2, ⟨hk.1.1.2, hk.1.2⟩⟩)⟩, ⟨by (with_reducible repeat (first | apply Kd.R_alloc | apply Kd.R_drewN | apply Kd.R_drew)); exact Kd.R_mono HO260.out (fun _ hk => ⟨hk.2, ⟨hk.1.1.2, hk.1.2⟩⟩)⟩, ⟨by (with_reducible repeat (first | apply Kd.R_alloc | apply Kd.R_drewN | apply Kd.R_drew)); exact Kd.R_mono HO243.out (fun _ hk => ⟨hk.1.2, ⟨hk.2, hk.1.1.2⟩⟩)⟩, ⟨by (with_reducible repeat (first | apply Kd.R_alloc | apply Kd.R_drewN | apply Kd.R_drew)); exact Kd.R_mono HO252.out (fun _ hk => ⟨hk.1.2, ⟨hk.2, hk.1.1.2⟩⟩)⟩, ⟨by (with_reducible repeat (first | refine blk_drewN ?_ _ | refine blk_drew ?_ | refine blk_alloc ?_ _)); exact BK234.out⟩, ⟨by (with_reducible repeat (first | refine blk_drewN ?_ _ | refine blk_drew ?_ | refine blk_alloc ?_ _)); exact BK245.out⟩, ⟨by (with_reducible repeat (first | refine blk_drewN ?_ _ | refine blk_drew ?_ | refine blk_alloc ?_ _)); exact BK254.out⟩, ⟨by repeat (first | (with_reducible first | exact HB.out | apply below_alloc | apply pw_below_drewN | apply below_drew1 | refine below_set ?_ GE234.out | refine below_set ?_ GE245.out | refine below_set ?_ GE254.out) | exact HB.out)⟩⟩
       ·rw [if_neg c38] at H
        have c38b0 : (t238 == a0_1) = false := beq_eq_false_iff_ne.mpr c38
        have c38b1 : (t238 != a0_1) = true := bne_iff_ne.mpr c38
        have H' := Aside0.mk H
        clear H
        have hnb71 := NB245_234.out
        have hnc71 := NB234_245.out
        have hnb72 := NB245_254.out
        have hnc72 := NB254_245.out
        obtain ⟨hcz73_0, hcz73_1, hcz73_2, hcz73_3, hcz73_4, hfz73_0, hfz73_1, hfz73_2, hfz73_3, hfz73_4⟩ := Cz.d5 BK245
        have hnb74 := NB234_254.out
        have hnc74 := NB254_234.out
        obtain ⟨hcz75_0, hcz75_1, hcz75_2, hcz75_3, hcz75_4, hfz75_0, hfz75_1, hfz75_2, hfz75_3, hfz75_4⟩ := Cz.d5 BK234
        go_wp2
        repeat (go_quiet (fail); try go_wp2)
        go_meet
        case rel => exact ⟨_, (true), (by first | rfl | (simp; done) | (simp [*]; done)), H', ⟨by have := HJ4.out; first | omega | exact Nat.le_refl _⟩, ⟨by (with_reducible repeat (first | apply Kd.R_alloc | apply Kd.R_drewN | apply Kd.R_drew)); exact Kd.R_mono HO257.out (fun _ hk => ⟨hk.2, ⟨hk.1.1.2, hk.1.2⟩⟩)⟩, ⟨by (with_reducible repeat (first | apply Kd.R_alloc | apply Kd.R_drewN | apply Kd.R_drew)); exact Kd.R_mono HO260.out (fun _ hk => ⟨hk.2, ⟨hk.1.1.2, hk.1.2⟩⟩)⟩, ⟨by (with_reducible repeat (first | apply Kd.R_alloc | apply Kd.R_drewN | apply Kd.R_drew)); exact Kd.R_mono HO243.out (fun _ hk => ⟨hk.1.2, ⟨hk.2, hk.1.1.2⟩⟩)⟩, ⟨by (with_reducible repeat (first | apply Kd.R_alloc | apply Kd.R_drewN | apply Kd.R_drew)); exact Kd.R_mono HO252.out (fun _ hk => ⟨hk.1.2, ⟨hk.2, hk.1.1.2⟩⟩)⟩, ⟨by (with_reducible repeat (first | refine blk_drewN ?_ _ | refine blk_drew ?_ | refine blk_alloc ?_ _)); exact BK234.out⟩, ⟨by (with_reducible repeat (first | refine blk_drewN ?_ _ | refine blk_drew ?_ | refine blk_alloc ?_ _)); exact BK245.out⟩, ⟨by (with_reducible repeat (first | refine blk_drewN ?_ _ | refine blk_drew ?_ | refine blk_alloc ?_ _)); exact BK254.out⟩, ⟨by repeat (first | (with_reducible first | exact HB.out | apply below_alloc | apply pw_below_drewN | apply below_drew1 | refine below_set ?_ GE234.out | refine below_set ?_ GE245.out | refine below_set ?_ GE254.out) | exact HB.out)⟩⟩
      ·rw [if_neg c37] at H
       have c37b0 : (t237 == a0_0) = false := beq_eq_false_iff_ne.mpr c37
       have c37b1 : (t237 != a0_0) = true := bne_iff_ne.mpr c37
       (first | rw [c37b0] | (simp only [i64_w, i32_w]; rw [c37b0]) | skip)
       have H' := Aside0.mk H
       clear H
       have hnb76 := NB245_234.out
       have hnc76 := NB234_245.out
       have hnb77 := NB245_254.out
       have hnc77 := NB254_245.out
       obtain ⟨hcz78_0, hcz78_1, hcz78_2, hcz78_3, hcz78_4, hfz78_0, hfz78_1, hfz78_2, hfz78_3, hfz78_4⟩ := Cz.d5 BK245
       have hnb79 := NB234_254.out
       have hnc79 := NB254_234.out
       obtain ⟨hcz80_0, hcz80_1, hcz80_2, hcz80_3, hcz80_4, hfz80_0, hfz80_1, hfz80_2, hfz80_3, hfz80_4⟩ := Cz.d5 BK234
       go_wp2
       repeat (go_quiet (fail); try go_wp2)
       go_meet
       case rel => exact ⟨_, (true), (by first | rfl | (simp; done) | (simp [*]; done)), H', ⟨by have := HJ4.out; first | omega | exact Nat.le_refl _⟩, ⟨by (with_reducible repeat (first | apply Kd.R_alloc | apply Kd.R_drewN | apply Kd.R_drew)); exact Kd.R_mono HO257.out (fun _ hk => ⟨hk.2, ⟨hk.1.1.2, hk.1.2⟩⟩)⟩, ⟨by (with_reducible repeat (first | apply Kd.R_alloc | apply Kd.R_drewN | apply Kd.R_drew)); exact Kd.R_mono HO260.out (fun _ hk => ⟨hk.2, ⟨hk.1.1.2, hk.1.2⟩⟩)⟩, ⟨by (with_reducible repeat (first | apply Kd.R_alloc | apply Kd.R_drewN | apply Kd.R_drew)); exact Kd.R_mono HO243.out (fun _ hk => ⟨hk.1.2, ⟨hk.2, hk.1.1.2⟩⟩)⟩, ⟨by (with_reducible repeat (first | apply Kd.R_alloc | apply Kd.R_drewN | apply Kd.R_drew)); exact Kd.R_mono HO252.out (fun _ hk => ⟨hk.1.2, ⟨hk.2, hk.1.1.2⟩⟩)⟩, ⟨by (with_reducible repeat (first | refine blk_drewN ?_ _ | refine blk_drew ?_ | refine blk_alloc ?_ _)); exact BK234.out⟩, ⟨by (with_reducible repeat (first | refine blk_drewN ?_ _ | refine blk_drew ?_ | refine blk_alloc ?_ _)); exact BK245.out⟩, ⟨by (with_reducible repeat (first | refine blk_drewN ?_ _ | refine blk_drew ?_ | refine blk_alloc ?_ _)); exact BK254.out⟩, ⟨by repeat (first | (with_reducible first | exact HB.out | apply below_alloc | apply pw_below_drewN | apply below_drew1 | refine below_set ?_ GE234.out | refine below_set ?_ GE245.out | refine below_set ?_ GE254.out) | exact HB.out)⟩⟩
     ·replace c36 := Bool.eq_false_iff.mpr c36
      subst c36
      rw [if_neg (show ¬ (false = true) by decide)] at H
      have H' := Aside0.mk H
      clear H
      go_wp2
      repeat (go_quiet (fail); try go_wp2)
      go_meet
      case rel => exact ⟨_, (true), (by first | rfl | (simp; done) | (simp [*]; done)), H', ⟨by have := HJ4.out; first | omega | exact Nat.le_refl _⟩, ⟨by (with_reducible repeat (first | apply Kd.R_alloc | apply Kd.R_drewN | apply Kd.R_drew)); exact Kd.R_mono HO257.out (fun _ hk => ⟨hk.2, ⟨hk.1.1.2, hk.1.2⟩⟩)⟩, ⟨by (with_reducible repeat (first | apply Kd.R_alloc | apply Kd.R_drewN | apply Kd.R_drew)); exact Kd.R_mono HO260.out (fun _ hk => ⟨hk.2, ⟨hk.1.1.2, hk.1.2⟩⟩)⟩, ⟨by (with_reducible repeat (first | apply Kd.R_alloc | apply Kd.R_drewN | apply Kd.R_drew)); exact Kd.R_mono HO243.out (fun _ hk => ⟨hk.1.2, ⟨hk.2, hk.1.1.2⟩⟩)⟩, ⟨by (with_reducible repeat (first | apply Kd.R_alloc | apply Kd.R_drewN | apply Kd.R_drew)); exact Kd.R_mono HO252.out (fun _ hk => ⟨hk.1.2, ⟨hk.2, hk.1.1.2⟩⟩)⟩, ⟨by (with_reducible repeat (first | refine blk_drewN ?_ _ | refine blk_drew ?_ | refine blk_alloc ?_ _)); exact BK234.out⟩, ⟨by (with_reducible repeat (first | refine blk_drewN ?_ _ | refine blk_drew ?_ | refine blk_alloc ?_ _)); exact BK245.out⟩, ⟨by (with_reducible repeat (first | refine blk_drewN ?_ _ | refine blk_drew ?_ | refine blk_alloc ?_ _)); exact BK254.out⟩, ⟨by repeat (first | (with_reducible first | exact HB.out | apply below_alloc | apply pw_below_drewN | apply below_drew1 | refine below_set ?_ GE234.out | refine below_set ?_ GE245.out | refine below_set ?_ GE254.out) | exact HB.out)⟩⟩
    case rest =>
     clear HC18
     try clear c1
     try clear c2
     try clear p2
     try clear c3
     try clear c4
     try clear hcv4
     try clear c5
     try clear hcv5
     try clear c6
     try clear p6
     try clear c7
     try clear c8
     try clear c8b0
     try clear c8b1
     try clear c13
     try clear c15
     try clear c22
     try clear c28
     try clear c29
     try clear c36
     try clear c37
     try clear c37b0
     try clear c37b1
     try clear c38
     try clear c38b0
     try clear c38b1
     try clear c39
     try clear c39b0
     try clear c39b1
     try clear c40
     try clear c40b0
     try clear c40b1
     try clear c41
     try clear c41b0
     try clear c41b1
     try clear c42
     try clear c43
     try clear c45
     try clear hcv47
     try clear hcv49
     try clear c52
     try clear c53
     try clear c55
     try clear hcv57
     try clear hcv59
     try clear c61
     try clear c62
     try clear c64
     try clear p64
     try clear c66
     try clear c67
     try clear c69
     try clear c71
     try clear c72
     try clear c74
     try clear c76
     try clear c77
     try clear c79
     try clear hcz11_0
     try clear hcz11_1
     try clear hcz11_2
     try clear hcz11_3
     try clear hcz11_4
     try clear hcz19_0
     try clear hcz19_1
     try clear hcz19_2
     try clear hcz19_3
     try clear hcz19_4
     try clear hcz23_0
     try clear hcz23_1
     try clear hcz23_2
     try clear hcz23_3
     try clear hcz23_4
     try clear hcz25_0
     try clear hcz25_1
     try clear hcz25_2
     try clear hcz25_3
     try clear hcz25_4
     try clear hcz30_0
     try clear hcz30_1
     try clear hcz30_2
     try clear hcz30_3
     try clear hcz30_4
     try clear hcz32_0
     try clear hcz32_1
     try clear hcz32_2
     try clear hcz32_3
     try clear hcz32_4
     try clear hcz34_0
     try clear hcz34_1
     try clear hcz34_2
     try clear hcz34_3
     try clear hcz34_4
     try clear hcz44_0
     try clear hcz44_1
     try clear hcz44_2
     try clear hcz44_3
     try clear hcz44_4
     try clear hcz46_0
     try clear hcz46_1
     try clear hcz46_2
     try clear hcz46_3
     try clear hcz46_4
     try clear hcz54_0
     try clear hcz54_1
     try clear hcz54_2
     try clear hcz54_3
     try clear hcz54_4
     try clear hcz56_0
     try clear hcz56_1
     try clear hcz56_2
     try clear hcz56_3
     try clear hcz56_4
     try clear hcz63_0
     try clear hcz63_1
     try clear hcz63_2
     try clear hcz63_3
     try clear hcz63_4
     try clear hcz65_0
     try clear hcz65_1
     try clear hcz65_2
     try clear hcz65_3
     try clear hcz65_4
     try clear hcz68_0
     try clear hcz68_1
     try clear hcz68_2
     try clear hcz68_3
     try clear hcz68_4
     try clear hcz70_0
     try clear hcz70_1
     try clear hcz70_2
     try clear hcz70_3
     try clear hcz70_4
     try clear hcz73_0
     try clear hcz73_1
     try clear hcz73_2
     try clear hcz73_3
     try clear hcz73_4
     try clear hcz75_0
     try clear hcz75_1
     try clear hcz75_2
     try clear hcz75_3
     try clear hcz75_4
     try clear hcz78_0
     try clear hcz78_1
     try clear hcz78_2
     try clear hcz78_3
     try clear hcz78_4
     try clear hcz80_0
     try clear hcz80_1
     try clear hcz80_2
     try clear hcz80_3
     try clear hcz80_4
     try clear hcz9_0
     try clear hcz9_1
     try clear hcz9_2
     try clear hcz9_3
     try clear hcz9_4
     try clear hfz11_0
     try clear hfz11_1
     try clear hfz11_2
     try clear hfz11_3
     try clear hfz11_4
     try clear hfz19_0
     try clear hfz19_1
     try clear hfz19_2
     try clear hfz19_3
     try clear hfz19_4
     try clear hfz23_0
     try clear hfz23_1
     try clear hfz23_2
     try clear hfz23_3
     try clear hfz23_4
     try clear hfz25_0
     try clear hfz25_1
     try clear hfz25_2
     try clear hfz25_3
     try clear hfz25_4
     try clear hfz30_0
     try clear hfz30_1
     try clear hfz30_2
     try clear hfz30_3
     try clear hfz30_4
     try clear hfz32_0
     try clear hfz32_1
     try clear hfz32_2
     try clear hfz32_3
     try clear hfz32_4
     try clear hfz34_0
     try clear hfz34_1
     try clear hfz34_2
     try clear hfz34_3
     try clear hfz34_4
     try clear hfz44_0
     try clear hfz44_1
     try clear hfz44_2
     try clear hfz44_3
     try clear hfz44_4
     try clear hfz46_0
     try clear hfz46_1
     try clear hfz46_2
     try clear hfz46_3
     try clear hfz46_4
     try clear hfz54_0
     try clear hfz54_1
     try clear hfz54_2
     try clear hfz54_3
     try clear hfz54_4
     try clear hfz56_0
     try clear hfz56_1
     try clear hfz56_2
     try clear hfz56_3
     try clear hfz56_4
     try clear hfz63_0
     try clear hfz63_1
     try clear hfz63_2
     try clear hfz63_3
     try clear hfz63_4
     try clear hfz65_0
     try clear hfz65_1
     try clear hfz65_2
     try clear hfz65_3
     try clear hfz65_4
     try clear hfz68_0
     try clear hfz68_1
     try clear hfz68_2
     try clear hfz68_3
     try clear hfz68_4
     try clear hfz70_0
     try clear hfz70_1
     try clear hfz70_2
     try clear hfz70_3
     try clear hfz70_4
     try clear hfz73_0
     try clear hfz73_1
     try clear hfz73_2
     try clear hfz73_3
     try clear hfz73_4
     try clear hfz75_0
     try clear hfz75_1
     try clear hfz75_2
     try clear hfz75_3
     try clear hfz75_4
     try clear hfz78_0
     try clear hfz78_1
     try clear hfz78_2
     try clear hfz78_3
     try clear hfz78_4
     try clear hfz80_0
     try clear hfz80_1
     try clear hfz80_2
     try clear hfz80_3
     try clear hfz80_4
     try clear hfz9_0
     try clear hfz9_1
     try clear hfz9_2
     try clear hfz9_3
     try clear hfz9_4
     try clear p2
     obtain ⟨kq, x88_17, rfl, HA, HJ17, HO_12, HO_13, HO_246004, HO_255004, BK234, BK245, BK254, HB⟩ := hcut
     cases kq with
     | zero => exact absurd HA.out (by simp [waggonerlaw07_ExtentCuts.j1])
     | succ kj17 =>
      have H := HA.out
      clear HA
      simp only [waggonerlaw07_ExtentCuts.j1] at H
      by_cases c81 : x88_17 = true
      ·subst c81
       have H1 : (some false) = some true := by rw [if_pos rfl] at H <;> exact H
       exact absurd H1 (by simp)
      ·replace c81 := Bool.eq_false_iff.mpr c81
       subst c81
       rw [if_neg (show ¬ (false = true) by decide)] at H
       by_cases c82 : t253 = true
       ·subst c82
        rw [if_pos rfl] at H
        by_cases c83 : (wrap64 (32 * (wrap64 (t246 - a0_0)))) < 0
        ·rw [if_pos c83] at H
         have c83b0 : decide ((wrap64 (32 * (wrap64 (t246 - a0_0)))) < 0) = true := decide_eq_true c83
         clear c83
         (have HRT := Aside0.mk (Option.some.inj H); clear H)
         have hnb84 := NB254_234.out
         have hnc84 := NB234_254.out
         have hnb85 := NB254_245.out
         have hnc85 := NB245_254.out
         obtain ⟨hcz86_0, hcz86_1, hcz86_2, hcz86_3, hcz86_4, hfz86_0, hfz86_1, hfz86_2, hfz86_3, hfz86_4⟩ := Cz.d5 BK254
         have hnb87 := NB234_245.out
         have hnc87 := NB245_234.out
         obtain ⟨hcz88_0, hcz88_1, hcz88_2, hcz88_3, hcz88_4, hfz88_0, hfz88_1, hfz88_2, hfz88_3, hfz88_4⟩ := Cz.d5 BK234
         go_wp2
         repeat (go_quiet (fail); try go_wp2)
         go_ret
         exact ⟨by first | rfl | (exact congrArg (fun z_ => Ending.returned (Value.bool z_)) HRT.out) | (rw [HRT.out]; done) | (simp [errW_none, errW_some] <;> rfl) | (simp [*, errW_none, errW_some] <;> rfl), by repeat (first | (with_reducible first | exact HB.out | apply below_alloc | apply pw_below_drewN | apply below_drew1 | refine below_set ?_ GE234.out | refine below_set ?_ GE245.out | refine below_set ?_ GE254.out) | exact HB.out)⟩
        ·rw [if_neg c83] at H
         have c83b0 : decide ((wrap64 (32 * (wrap64 (t246 - a0_0)))) < 0) = false := decide_eq_false c83
         clear c83
         by_cases c89 : (wrap64 ((wrap64 (32 * (wrap64 (t246 - a0_0)))) + (t258.length : Int))) > (t255.length : Int)
         ·rw [if_pos c89] at H
          have c89b0 : decide ((t255.length : Int) < (wrap64 ((wrap64 (32 * (wrap64 (t246 - a0_0)))) + (t258.length : Int)))) = true := decide_eq_true c89
          clear c89
          (have HRT := Aside0.mk (Option.some.inj H); clear H)
          have hnb90 := NB254_234.out
          have hnc90 := NB234_254.out
          have hnb91 := NB254_245.out
          have hnc91 := NB245_254.out
          obtain ⟨hcz92_0, hcz92_1, hcz92_2, hcz92_3, hcz92_4, hfz92_0, hfz92_1, hfz92_2, hfz92_3, hfz92_4⟩ := Cz.d5 BK254
          have hnb93 := NB234_245.out
          have hnc93 := NB245_234.out
          obtain ⟨hcz94_0, hcz94_1, hcz94_2, hcz94_3, hcz94_4, hfz94_0, hfz94_1, hfz94_2, hfz94_3, hfz94_4⟩ := Cz.d5 BK234
          obtain ⟨Ao95, co95, eo95⟩ := Kd.R_slice HO_13.out
          subst eo95
          obtain ⟨Ao96, co96, eo96⟩ := Kd.R_slice HO_12.out
          subst eo96
          go_wp2
          repeat (go_quiet (fail); try go_wp2)
          go_ret
          exact ⟨by first | rfl | (exact congrArg (fun z_ => Ending.returned (Value.bool z_)) HRT.out) | (rw [HRT.out]; done) | (simp [errW_none, errW_some] <;> rfl) | (simp [*, errW_none, errW_some] <;> rfl), by repeat (first | (with_reducible first | exact HB.out | apply below_alloc | apply pw_below_drewN | apply below_drew1 | refine below_set ?_ GE234.out | refine below_set ?_ GE245.out | refine below_set ?_ GE254.out) | exact HB.out)⟩
         ·rw [if_neg c89] at H
          have c89b0 : decide ((t255.length : Int) < (wrap64 ((wrap64 (32 * (wrap64 (t246 - a0_0)))) + (t258.length : Int)))) = false := decide_eq_false c89
          clear c89
          by_cases c97 : (t258.length : Int) = (wrap64 (32 * t247))
          ·rw [if_pos c97] at H
           have c97b0 : ((t258.length : Int) == (wrap64 (32 * t247))) = true := beq_iff_eq.mpr c97
           have c97b1 : ((t258.length : Int) != (wrap64 (32 * t247))) = false := bne_eq_false_iff_eq.mpr c97
           clear c97
           by_cases c98 : t235 = true
           ·subst c98
            rw [if_pos rfl] at H
            by_cases c99 : t246 ≥ a1
            ·rw [if_pos c99] at H
             have c99b0 : decide (a1 ≤ t246) = true := decide_eq_true c99
             clear c99
             by_cases c100 : (wrap64 (t246 + t247)) ≤ (wrap64 (a1 + a2))
             ·rw [if_pos c100] at H
              have c100b0 : decide ((wrap64 (t246 + t247)) ≤ (wrap64 (a1 + a2))) = true := decide_eq_true c100
              clear c100
              obtain ⟨ji101, hji101⟩ : ∃ j_ : Int, (wrap64 (32 * (wrap64 (t246 - a0_0)))) = j_ := ⟨_, rfl⟩
              replace H : (if 0 ≤ (ji101) then (if (ji101) ≤ (wrap64 ((ji101) + (t258.length : Int))) then (if (wrap64 ((ji101) + (t258.length : Int))) ≤ (t255.length : Int) then (if (strOfNums t258).toList = (strOfNums ((t255.take ((wrap64 ((ji101) + (t258.length : Int))) : Int).toNat).drop ((ji101) : Int).toNat)).toList then (if t248 = a0_2 then (some (t249 == a0_3)) else (some false)) else (some false)) else (none)) else (none)) else (none)) = some true := by first | (rw [hji101] at H; exact H) | (simp only [hji101] at H ⊢; exact H)
              (try rw [hji101] at c83b0)
              (try rw [hji101] at c89b0)
              have hji101w : (IntKind.i64.wrap (32 * (wrap64 (t246 - a0_0)))) = ji101 := (i64_w _).trans hji101
              by_cases c102 : 0 ≤ (ji101)
              ·rw [if_pos c102] at H
               have c102b0 := eq_true c102
               have c102b1 : decide (0 ≤ (ji101)) = true := decide_eq_true c102
               clear c102
               by_cases c103 : (ji101) ≤ (wrap64 ((ji101) + (t258.length : Int)))
               ·rw [if_pos c103] at H
                have c103b0 := eq_true c103
                have c103b1 : decide ((ji101) ≤ (wrap64 ((ji101) + (t258.length : Int)))) = true := decide_eq_true c103
                by_cases c104 : (wrap64 ((ji101) + (t258.length : Int))) ≤ (t255.length : Int)
                ·rw [if_pos c104] at H
                 have c104b0 := eq_true c104
                 have c104b1 : decide ((wrap64 ((ji101) + (t258.length : Int))) ≤ (t255.length : Int)) = true := decide_eq_true c104
                 obtain ⟨y261, hy261⟩ : ∃ y_ : List Int, y_ = ((t255.take ((wrap64 ((ji101) + (t258.length : Int))) : Int).toNat).drop ((ji101) : Int).toNat) := ⟨_, rfl⟩
                 replace H : (if (strOfNums t258).toList = (strOfNums y261).toList then (if t248 = a0_2 then (some (t249 == a0_3)) else (some false)) else (some false)) = some true := by first | (rw [hy261]; with_reducible exact H) | (have H2_ := (Option.bind_some _ _).symm.trans H; rw [hy261]; with_reducible exact H2_) | (have H2_ := (Option.bind_some _ _).symm.trans H; with_reducible exact H2_) | with_reducible exact H | (rw [hy261]; exact H) | exact H
                 have Ny261 := Aside0.mk hy261
                 clear hy261
                 by_cases c105 : (strOfNums t258).toList = (strOfNums y261).toList
                 ·rw [if_pos c105] at H
                  have c105b0 : ((strOfNums t258).toList == (strOfNums y261).toList) = true := beq_iff_eq.mpr c105
                  have c105b1 : ((strOfNums t258).toList != (strOfNums y261).toList) = false := bne_eq_false_iff_eq.mpr c105
                  clear c105
                  by_cases c106 : t248 = a0_2
                  ·rw [if_pos c106] at H
                   have c106b0 : (t248 == a0_2) = true := beq_iff_eq.mpr c106
                   have c106b1 : (t248 != a0_2) = false := bne_eq_false_iff_eq.mpr c106
                   clear c106
                   (have HRT := Aside0.mk (Option.some.inj H); clear H)
                   have hnb107 := NB254_234.out
                   have hnc107 := NB234_254.out
                   have hnb108 := NB254_245.out
                   have hnc108 := NB245_254.out
                   obtain ⟨hcz109_0, hcz109_1, hcz109_2, hcz109_3, hcz109_4, hfz109_0, hfz109_1, hfz109_2, hfz109_3, hfz109_4⟩ := Cz.d5 BK254
                   have hnb110 := NB234_245.out
                   have hnc110 := NB245_234.out
                   obtain ⟨hcz111_0, hcz111_1, hcz111_2, hcz111_3, hcz111_4, hfz111_0, hfz111_1, hfz111_2, hfz111_3, hfz111_4⟩ := Cz.d5 BK234
                   obtain ⟨Ao112, co112, eo112⟩ := Kd.R_slice HO_13.out
                   subst eo112
                   obtain ⟨Ao113, co113, eo113⟩ := Kd.R_slice HO_12.out
                   subst eo113
                   have hcv114 := own_string (P := Try.prog) Try.underlying23 Try.underlying5 Try.underlying9 (Kd.own_of_R HO_13.out)
                   (try have hcvd115 := fun (n_ : Nat) => own_string (P := Try.prog) Try.underlying23 Try.underlying5 Try.underlying9 (Kd.own_of_R (Kd.R_drewN HO_13.out n_)))
                   have q116 : ((wrap64 ((ji101) + (t258.length : Int))) : Int) ≤ ((t255.length : Int) : Int) := of_decide_eq_true (by first | (with_reducible assumption) | assumption)
                   obtain ⟨i0116, hi0116, _, hsz116, _⟩ := info_parts info5
                   have hroom116 : t255.length ≤ co113 := (Kd.R_reads' HO_12.out).2.1
                   have hC116 : Kd.C (Kd.int .u8) _ Ao113 t255.length t255 := (Kd.R_reads' HO_12.out).2.2
                   have ql116 : ((ji101) : Int) ≤ ((wrap64 ((ji101) + (t258.length : Int))) : Int) := of_decide_eq_true (by first | (with_reducible assumption) | assumption)
                   have q0116 : (0 : Int) ≤ ((ji101) : Int) := of_decide_eq_true (by first | (with_reducible assumption) | assumption)
                   have hcut116 := cut_mid (P := Try.prog) 23 5 .i64 .i64 Try.underlying23 hi0116 1 hsz116 Ao113 t255.length co113 (ji101) (wrap64 ((ji101) + (t258.length : Int))) q0116 ql116 q116 hroom116
                   have hr116 := Kd.C_mid (lo := ((ji101) : Int).toNat) (hi := ((wrap64 ((ji101) + (t258.length : Int))) : Int).toNat) (c := co113) hC116 (by omega) (by omega) hroom116
                   obtain ⟨A116, hA116⟩ : ∃ A1, A1 = (if co113 = ((ji101) : Int).toNat then Ao113 else (Ao113 : Option Addr).map (·.add (((ji101) : Int).toNat * 1))) := ⟨_, rfl⟩
                   obtain ⟨c116, hc116⟩ : ∃ c1, c1 = co113 - ((ji101) : Int).toNat := ⟨_, rfl⟩
                   have hy116 : y261.length = ((wrap64 ((ji101) + (t258.length : Int))) : Int).toNat - ((ji101) : Int).toNat := (by rw [Ny261.out, List.length_drop, List.length_take] <;> omega)
                   rw [show ((t255).take ((wrap64 ((ji101) + (t258.length : Int))) : Int).toNat).drop ((ji101) : Int).toNat = y261 from Ny261.out.symm] at hr116
                   replace hr116 : Kd.C (Kd.int .u8) _ A116 y261.length y261 := (by rw [hA116]; exact hr116)
                   rw [← hy116, ← hA116, ← hc116] at hcut116
                   have HR264 := Aside0.mk hr116
                   have HC264 := Aside0.mk (show y261.length ≤ c116 from by rw [hy116, hc116]; exact Nat.sub_le_sub_right (Nat.le_trans (by omega) hroom116) _)
                   clear hr116 hC116 hroom116 hi0116 hsz116 hc116
                   have KY116 := Aside0.mk hy116
                   have KA116 := Aside0.mk hA116
                   clear hy116 hA116
                   have KL116 := Aside0.mk (show ((wrap64 ((ji101) + (t258.length : Int))) : Int).toNat ≤ t255.length from by omega)
                   have KM116 := Aside0.mk (show ((ji101) : Int).toNat ≤ ((wrap64 ((ji101) + (t258.length : Int))) : Int).toNat from by omega)
                   replace q116 := eq_true q116
                   have hcv117 := Kd.C_string (P := Try.prog) (A := A116) (c := c116) Try.underlying23 Try.underlying5 Try.underlying9 (by repeat (first | (with_reducible exact HR264.out) | (with_reducible refine Kd.C_alloc ?_ _) | (with_reducible refine Kd.C_drewN ?_ _) | (with_reducible refine Kd.C_drew ?_) | exact HR264.out))
                   (try have hcvd118 := fun (n_ : Nat) => Kd.C_string (P := Try.prog) (A := A116) (c := c116) Try.underlying23 Try.underlying5 Try.underlying9 (Kd.C_drewN HR264.out n_))
                   go_wp2
                   repeat (go_quiet (fail); try go_wp2)
                   go_ret
                   exact ⟨by first | rfl | (exact congrArg (fun z_ => Ending.returned (Value.bool z_)) HRT.out) | (rw [HRT.out]; done) | (simp [errW_none, errW_some] <;> rfl) | (simp only [← hji101]; first | rfl | (simp [errW_none, errW_some] <;> rfl)) | (simp [*, errW_none, errW_some] <;> rfl), by repeat (first | (with_reducible first | exact HB.out | apply below_alloc | apply pw_below_drewN | apply below_drew1 | refine below_set ?_ GE234.out | refine below_set ?_ GE245.out | refine below_set ?_ GE254.out) | exact HB.out)⟩
                  ·rw [if_neg c106] at H
                   first | exact absurd H (by simp; done) | skip
                 ·rw [if_neg c105] at H
                  first | exact absurd H (by simp; done) | skip
                ·rw [if_neg c104] at H
                 exact absurd H (by simp)
               ·rw [if_neg c103] at H
                exact absurd H (by simp)
              ·rw [if_neg c102] at H
               exact absurd H (by simp)
             ·rw [if_neg c100] at H
              first | exact absurd H (by simp; done) | skip
            ·rw [if_neg c99] at H
             first | exact absurd H (by simp; done) | skip
           ·replace c98 := Bool.eq_false_iff.mpr c98
            subst c98
            have H1 : (some false) = some true := by rw [if_neg (show ¬ (false = true) by decide)] at H <;> exact H
            exact absurd H1 (by simp)
          ·rw [if_neg c97] at H
           have c97b0 : ((t258.length : Int) == (wrap64 (32 * t247))) = false := beq_eq_false_iff_ne.mpr c97
           have c97b1 : ((t258.length : Int) != (wrap64 (32 * t247))) = true := bne_iff_ne.mpr c97
           (have HRT := Aside0.mk (Option.some.inj H); clear H)
           have hnb164 := NB254_234.out
           have hnc164 := NB234_254.out
           have hnb165 := NB254_245.out
           have hnc165 := NB245_254.out
           obtain ⟨hcz166_0, hcz166_1, hcz166_2, hcz166_3, hcz166_4, hfz166_0, hfz166_1, hfz166_2, hfz166_3, hfz166_4⟩ := Cz.d5 BK254
           have hnb167 := NB234_245.out
           have hnc167 := NB245_234.out
           obtain ⟨hcz168_0, hcz168_1, hcz168_2, hcz168_3, hcz168_4, hfz168_0, hfz168_1, hfz168_2, hfz168_3, hfz168_4⟩ := Cz.d5 BK234
           obtain ⟨Ao169, co169, eo169⟩ := Kd.R_slice HO_13.out
           subst eo169
           obtain ⟨Ao170, co170, eo170⟩ := Kd.R_slice HO_12.out
           subst eo170
           go_wp2
           repeat (go_quiet (fail); try go_wp2)
           go_ret
           exact ⟨by first | rfl | (exact congrArg (fun z_ => Ending.returned (Value.bool z_)) HRT.out) | (rw [HRT.out]; done) | (simp [errW_none, errW_some] <;> rfl) | (simp [*, errW_none, errW_some] <;> rfl), by repeat (first | (with_reducible first | exact HB.out | apply below_alloc | apply pw_below_drewN | apply below_drew1 | refine below_set ?_ GE234.out | refine below_set ?_ GE245.out | refine below_set ?_ GE254.out) | exact HB.out)⟩
       ·replace c82 := Bool.eq_false_iff.mpr c82
        subst c82
        rw [if_neg (show ¬ (false = true) by decide)] at H
        by_cases c171 : t235 = true
        ·subst c171
         rw [if_pos rfl] at H
         (have HRT := Aside0.mk (Option.some.inj H); clear H)
         obtain ⟨Ao172, co172, eo172⟩ := Kd.R_slice HO_13.out
         subst eo172
         go_wp2
         repeat (go_quiet (fail); try go_wp2)
         go_ret
         exact ⟨by first | rfl | (exact congrArg (fun z_ => Ending.returned (Value.bool z_)) HRT.out) | (rw [HRT.out]; done) | (simp [errW_none, errW_some] <;> rfl) | (simp [*, errW_none, errW_some] <;> rfl), by repeat (first | (with_reducible first | exact HB.out | apply below_alloc | apply pw_below_drewN | apply below_drew1 | refine below_set ?_ GE234.out | refine below_set ?_ GE245.out | refine below_set ?_ GE254.out) | exact HB.out)⟩
        ·replace c171 := Bool.eq_false_iff.mpr c171
         subst c171
         have H1 : (some false) = some true := by rw [if_neg (show ¬ (false = true) by decide)] at H <;> exact H
         exact absurd H1 (by simp)
end Go.Proofs.Ytcemlfkboifncaa.PK
