/- Functions of the program as Lean functions, and that the Go code comes to just their answers: no condition but that the function says so. (Written by a program of this workplace over the kit's print, with contracts by hand.) -/
import Derived.Test.YtcemlfkboifncaaCz
import Derived.Test.YtcemlfkboifncaaPFx14
import Derived.Test.YtcemlfkboifncaaPFx19
import Derived.Test.YtcemlfkboifncaaPFx21
import Derived.Test.YtcemlfkboifncaaPFx26
import Derived.Test.YtcemlfkboifncaaPFx38
import Derived.Test.YtcemlfkboifncaaPFx42
import Derived.Test.YtcemlfkboifncaaPFx46
namespace Go.Proofs.Ytcemlfkboifncaa.PF
open Go.Proofs.Ytcemlfkboifncaa Go.RowKit Go.Proofs.YtcemlfkboifncaaW.PrintWords Go.Proofs.YtcemlfkboifncaaW.PrintLast Go.Proofs.YtcemlfkboifncaaW.PrintMore
attribute [local go_sem] max2_int min2_int max_two min_two max_three min_three max_four min_four   -- for this text's walks alone
set_option linter.unusedVariables false
set_option linter.unusedSimpArgs false

/-! ### waggonerlaw07_ExtentTells: function 10 -/
mutual
def waggonerlaw07_ExtentTells.j0 : Nat → Int → Int → Bool → Bool → Int → Int → Int → Int → List Int → Int → Int → Int → Int → List Int → Option (Bool)
 | 0, _, _, _, _, _, _, _, _, _, _, _, _, _, _ => none
 | k + 1, x2, x3, x9, x29, x285000, x285001, x285002, x285003, x285004, x286000, x286001, x286002, x286003, x286004 => if x29 = true then (some x9) else ((extent_Cut.f x285000 x285001 x285002 x285003 x285004 x2 x3).bind fun bt287 => ((waggonerref07_Cut.f x285000 x285001 x285002 x285003 x285004 x2 x3).bind fun bt296 => ((extent_Join.f x285000 x285001 x285002 x285003 x285004 x286000 x286001 x286002 x286003 x286004).bind fun bt305 => ((waggonerref07_Join.f x285000 x285001 x285002 x285003 x285004 x286000 x286001 x286002 x286003 x286004).bind fun bt314 => ((waggonerref07_Same.f bt287.1 bt287.2.1 bt287.2.2.1 bt287.2.2.2.1 bt287.2.2.2.2.1 bt296.1 bt296.2.1 bt296.2.2.1 bt296.2.2.2.1 bt296.2.2.2.2.1).bind fun t323 => (if t323 = true then ((waggonerref07_Same.f bt305.1 bt305.2.1 bt305.2.2.1 bt305.2.2.2.1 bt305.2.2.2.2.1 bt314.1 bt314.2.1 bt314.2.2.1 bt314.2.2.2.1 bt314.2.2.2.2.1).bind fun t324 => (waggonerlaw07_ExtentTells.j1 k x9 bt287.2.2.2.2.2 bt296.2.2.2.2.2 bt305.2.2.2.2.2 bt314.2.2.2.2.2 t324 x285000 x285001 x285002 x285003 x285004 x286000 x286001 x286002 x286003 x286004)) else (waggonerlaw07_ExtentTells.j1 k x9 bt287.2.2.2.2.2 bt296.2.2.2.2.2 bt305.2.2.2.2.2 bt314.2.2.2.2.2 false x285000 x285001 x285002 x285003 x285004 x286000 x286001 x286002 x286003 x286004)))))))
def waggonerlaw07_ExtentTells.j1 : Nat → Bool → Bool → Bool → Int → Int → Bool → Int → Int → Int → Int → List Int → Int → Int → Int → Int → List Int → Option (Bool)
 | 0, _, _, _, _, _, _, _, _, _, _, _, _, _, _, _, _ => none
 | k + 1, x9, x11, x13, x15, x17, x18, x285000, x285001, x285002, x285003, x285004, x286000, x286001, x286002, x286003, x286004 => if x9 = true then ((extent_Check.f x285000 x285001 x285002 x285003 x285004).bind fun t325 => ((waggonerref07_Check.f x285000 x285001 x285002 x285003 x285004).bind fun t326 => (if (t325 == t326) = true then ((extent_Bytes.f x285000 x285001 x285002 x285003 x285004).bind fun t327 => ((waggonerref07_Bytes.f x285000 x285001 x285002 x285003 x285004).bind fun t330 => (if (strOfNums t327).toList = (strOfNums t330).toList then (if x18 = true then (if (x11 == x13) = true then ((extent_Joins.f x285000 x285001 x285002 x285003 x285004 x286000 x286001 x286002 x286003 x286004).bind fun t333 => ((waggonerref07_Joins.f x285000 x285001 x285002 x285003 x285004 x286000 x286001 x286002 x286003 x286004).bind fun t334 => (if (t333 == t334) = true then (some (x15 == x17)) else (some false)))) else (some false)) else (some false)) else (some false)))) else (some false)))) else (some false)
end
def waggonerlaw07_ExtentTells.f (k : Nat) (a0_0 : Int) (a0_1 : Int) (a0_2 : Int) (a0_3 : Int) (l0_4 : List Int) (a1_0 : Int) (a1_1 : Int) (a1_2 : Int) (a1_3 : Int) (l1_4 : List Int) (a2 : Int) (a3 : Int) : Option (Bool) := (waggonerlaw07_awake.f).bind fun t286 => (if (l0_4.length : Int) > 3000 then (waggonerlaw07_ExtentTells.j0 k a2 a3 t286 true a0_0 a0_1 a0_2 a0_3 l0_4 a1_0 a1_1 a1_2 a1_3 l1_4) else (waggonerlaw07_ExtentTells.j0 k a2 a3 t286 (decide ((l1_4.length : Int) > 3000)) a0_0 a0_1 a0_2 a0_3 l0_4 a1_0 a1_1 a1_2 a1_3 l1_4))
theorem waggonerlaw07_ExtentTells.mono_l : ∀ k, (∀ y0 y1 y2 y3 y4 y5 y6 y7 y8 y9 y10 y11 y12 y13, LeO (waggonerlaw07_ExtentTells.j0 k y0 y1 y2 y3 y4 y5 y6 y7 y8 y9 y10 y11 y12 y13) (waggonerlaw07_ExtentTells.j0 (k + 1) y0 y1 y2 y3 y4 y5 y6 y7 y8 y9 y10 y11 y12 y13)) ∧ (∀ y0 y1 y2 y3 y4 y5 y6 y7 y8 y9 y10 y11 y12 y13 y14 y15, LeO (waggonerlaw07_ExtentTells.j1 k y0 y1 y2 y3 y4 y5 y6 y7 y8 y9 y10 y11 y12 y13 y14 y15) (waggonerlaw07_ExtentTells.j1 (k + 1) y0 y1 y2 y3 y4 y5 y6 y7 y8 y9 y10 y11 y12 y13 y14 y15))
 | 0 => ⟨fun _ _ _ _ _ _ _ _ _ _ _ _ _ _ r h => by simp [waggonerlaw07_ExtentTells.j0] at h, fun _ _ _ _ _ _ _ _ _ _ _ _ _ _ _ _ r h => by simp [waggonerlaw07_ExtentTells.j1] at h⟩
 | k + 1 => by
  obtain ⟨ih0, ih1⟩ := waggonerlaw07_ExtentTells.mono_l k
  refine ⟨?_, ?_⟩
  ·intro y0 y1 y2 y3 y4 y5 y6 y7 y8 y9 y10 y11 y12 y13
   unfold waggonerlaw07_ExtentTells.j0
   repeat' first
   | (with_reducible exact ih0 _ _ _ _ _ _ _ _ _ _ _ _ _ _)
   | (with_reducible exact ih1 _ _ _ _ _ _ _ _ _ _ _ _ _ _ _ _)
   | (with_reducible exact LeO.refl _)
   | (with_reducible exact LeO.none _)
   | (with_reducible refine LeO.ite ?_ ?_)
   | (with_reducible refine LeO.bind ?_ (fun _ => ?_))
   | exact ih0 _ _ _ _ _ _ _ _ _ _ _ _ _ _
   | exact ih1 _ _ _ _ _ _ _ _ _ _ _ _ _ _ _ _
   | exact LeO.none _
   | refine LeO.ite ?_ ?_
   | refine LeO.bind ?_ (fun _ => ?_)
  ·intro y0 y1 y2 y3 y4 y5 y6 y7 y8 y9 y10 y11 y12 y13 y14 y15
   unfold waggonerlaw07_ExtentTells.j1
   repeat' first
   | (with_reducible exact ih0 _ _ _ _ _ _ _ _ _ _ _ _ _ _)
   | (with_reducible exact ih1 _ _ _ _ _ _ _ _ _ _ _ _ _ _ _ _)
   | (with_reducible exact LeO.refl _)
   | (with_reducible exact LeO.none _)
   | (with_reducible refine LeO.ite ?_ ?_)
   | (with_reducible refine LeO.bind ?_ (fun _ => ?_))
   | exact ih0 _ _ _ _ _ _ _ _ _ _ _ _ _ _
   | exact ih1 _ _ _ _ _ _ _ _ _ _ _ _ _ _ _ _
   | exact LeO.none _
   | refine LeO.ite ?_ ?_
   | refine LeO.bind ?_ (fun _ => ?_)
theorem waggonerlaw07_ExtentTells.mono : ∀ a0 a1 a2 a3 a4 a5 a6 a7 a8 a9 a10 a11 k, LeO (waggonerlaw07_ExtentTells.f k a0 a1 a2 a3 a4 a5 a6 a7 a8 a9 a10 a11) (waggonerlaw07_ExtentTells.f (k + 1) a0 a1 a2 a3 a4 a5 a6 a7 a8 a9 a10 a11) := by
 intro a0 a1 a2 a3 a4 a5 a6 a7 a8 a9 a10 a11 k
 obtain ⟨ih0, ih1⟩ := waggonerlaw07_ExtentTells.mono_l k
 unfold waggonerlaw07_ExtentTells.f
 repeat' first
   | (with_reducible exact ih0 _ _ _ _ _ _ _ _ _ _ _ _ _ _)
   | (with_reducible exact ih1 _ _ _ _ _ _ _ _ _ _ _ _ _ _ _ _)
   | (with_reducible exact LeO.refl _)
   | (with_reducible exact LeO.none _)
   | (with_reducible refine LeO.ite ?_ ?_)
   | (with_reducible refine LeO.bind ?_ (fun _ => ?_))
   | exact ih0 _ _ _ _ _ _ _ _ _ _ _ _ _ _
   | exact ih1 _ _ _ _ _ _ _ _ _ _ _ _ _ _ _ _
   | exact LeO.none _
   | refine LeO.ite ?_ ?_
   | refine LeO.bind ?_ (fun _ => ?_)
def waggonerlaw07_ExtentTells.T9 : Bool × List (List Nat × List Nat) := (true, [([], []), ([0], [0]), ([1], [1]), ([2, 1, 1], [1, 2]), ([1], [1]), ([4, 3, 1], [1, 4]), ([3, 5, 1], [1, 3, 5]), ([1, 6], [1, 6]), ([7, 5], [7]), ([8], [8]), ([9, 8, 8], [8, 9]), ([10, 8], [8, 10]), ([8], [8]), ([12, 10, 8], [8, 12]), ([13, 8], [8, 13]), ([11, 14, 8], [8, 11, 14]), ([8, 15], [8, 15]), ([16, 13], [16]), ([17], [17]), ([17, 18], [17, 18]), ([19, 17], [19]), ([20], [20]), ([20], [20]), ([21, 22, 20], [20, 21, 22]), ([20, 23], [20, 23]), ([24, 20], [24]), ([25], [25]), ([25], [25]), ([26, 27, 25, 25], [25, 26, 27]), ([25], [25]), ([25], [25]), ([29, 30, 28, 25], [25, 29, 30]), ([28, 31, 25], [25, 28, 31]), ([25, 32], [25, 32]), ([33, 31], [33]), ([34], [34]), ([34], [34]), ([35, 36, 34], [34, 35, 36]), ([34, 37], [34, 37]), ([38, 34, 0, 1, 2, 3, 4, 5, 6, 7, 8, 9, 10, 11, 12, 13, 14, 15, 16, 17, 18, 19, 20, 21, 22, 23, 24, 25, 26, 27, 28, 29, 30, 31, 32, 33, 34, 35, 36, 37, 38], [38])])
def waggonerlaw07_ExtentTells.B9 : List Nat := [0, 1, 3, 7, 3, 31, 63, 127, 255, 511, 1023, 2047, 511, 6143, 14335, 32767, 65535, 131071, 262143, 524287, 1048575, 2097151, 2097151, 8388607, 16777215, 33554431, 67108863, 67108863, 268435455, 67108863, 67108863, 2147483647, 4294967295, 8589934591, 17179869183, 34359738367, 34359738367, 137438953471, 274877906943, 549755813887]
theorem waggonerlaw07_ExtentTells.tab9 : rtab .any (opsOf Try.f10 9) = waggonerlaw07_ExtentTells.T9 := by kernel_rfl
theorem waggonerlaw07_ExtentTells.bits9 : waitsOk waggonerlaw07_ExtentTells.T9.2 waggonerlaw07_ExtentTells.B9 = true := by kernel_rfl
set_option maxHeartbeats 8000000 in
set_option maxRecDepth 100000 in
theorem waggonerlaw07_ExtentTells.calls (k : Nat) (a0_0 : Int) (a0_1 : Int) (a0_2 : Int) (a0_3 : Int) (A0_4 : Option Addr) (c0_4 : Nat) (l0_4 : List Int) (a1_0 : Int) (a1_1 : Int) (a1_2 : Int) (a1_3 : Int) (A1_4 : Option Addr) (c1_4 : Nat) (l1_4 : List Int) (a2 : Int) (a3 : Int) (r : Bool) (hT : r = true) (w : World) (hr0_4 : Kd.C (Kd.int .u8) w A0_4 l0_4.length l0_4) (hc0_4 : l0_4.length ≤ c0_4) (hr1_4 : Kd.C (Kd.int .u8) w A1_4 l1_4.length l1_4) (hc1_4 : l1_4.length ≤ c1_4) (h : waggonerlaw07_ExtentTells.f k a0_0 a0_1 a0_2 a0_3 l0_4 a1_0 a1_1 a1_2 a1_3 l1_4 a2 a3 = some r) :
  Calls Try.prog 10 #[.agg #[.int .i64 a0_0, .int .i64 a0_1, .int .i64 a0_2, .int .i64 a0_3, .slice A0_4 l0_4.length c0_4], .agg #[.int .i64 a1_0, .int .i64 a1_1, .int .i64 a1_2, .int .i64 a1_3, .slice A1_4 l1_4.length c1_4], .int .i64 a2, .int .i64 a3] w fun e w' => e = .returned (.bool r) ∧ Below w.heap.size w w' := by
 subst hT
 have hu46 := Try.underlying46
 have HR0_4 := Aside0.mk hr0_4
 have HC0_4 := Aside0.mk hc0_4
 clear hr0_4 hc0_4
 have HR1_4 := Aside0.mk hr1_4
 have HC1_4 := Aside0.mk hc1_4
 clear hr1_4 hc1_4
 have HB := Aside0.mk (Below.refl w.heap.size w)
 have H : ((waggonerlaw07_awake.f).bind fun t286 => (if (l0_4.length : Int) > 3000 then (waggonerlaw07_ExtentTells.j0 k a2 a3 t286 true a0_0 a0_1 a0_2 a0_3 l0_4 a1_0 a1_1 a1_2 a1_3 l1_4) else (waggonerlaw07_ExtentTells.j0 k a2 a3 t286 (decide ((l1_4.length : Int) > 3000)) a0_0 a0_1 a0_2 a0_3 l0_4 a1_0 a1_1 a1_2 a1_3 l1_4))) = some true := h
 clear h
 replace H := Option.bind_eq_some_iff.mp H
 obtain ⟨t286, A50, H⟩ := H
 (try dsimp only at H)
 have A5 := Aside0.mk A50
 clear A50
 have HC6 := Aside0.mk H
 clear H
 go_enter Try.func10, Try.ntmps10
 go_upto_region 2 with (first | ((with_reducible refine gate_dst (N := 4) rfl ?_); (try (refine gate_guard (by rfl) ?_; dsimp only)); refine box_event ?hg (N := 4) ?hd (cs := #[.int .i64 a0_0, .int .i64 a0_1, .int .i64 a0_2, .int .i64 a0_3, .slice A0_4 l0_4.length c0_4]) (t := 46) ?hr ?_; (case hd => rfl); (case hg => rfl); (case hr => first | (go_simp; done) | (go_simp; rfl)); intro gb284 hg w7 hbox hb; have n0_ := Cz.bs (w := w) hb; have n1_ := Aside0.mk (hbox); have n2_ := Aside0.mk ((Cz.gs hg : w.heap.size ≤ gb284)); have n3_ := Aside0.mk ((Cz.gs hg : w.heap.size ≤ gb284)); clear HB; have HB := n0_; have BK284 := n1_; have GW284 := n2_; have GE284 := n3_; clear n0_ n1_ n2_ n3_; clear hb hbox hg) | ((with_reducible refine gate_dst (N := 5) rfl ?_); (try (refine gate_guard (by rfl) ?_; dsimp only)); refine box_event ?hg (N := 5) ?hd (cs := #[.int .i64 a1_0, .int .i64 a1_1, .int .i64 a1_2, .int .i64 a1_3, .slice A1_4 l1_4.length c1_4]) (t := 46) ?hr ?_; (case hd => rfl); (case hg => rfl); (case hr => first | (go_simp; done) | (go_simp; rfl)); intro gb285 hg w8 hbox hb; have n0_ := Cz.bk BK284 hb; have n1_ := Cz.bs (w := w) hb; have n2_ := Aside0.mk (hbox); have n3_ := Aside0.mk ((Cz.gs hg : w.heap.size ≤ gb285)); have n4_ := Aside0.mk ((Cz.gs hg : w.heap.size ≤ gb285)); have n5_ := Aside0.mk ((Cz.nl BK284 hg : gb284 ≠ gb285)); have n6_ := Aside0.mk ((Cz.nr BK284 hg : gb285 ≠ gb284)); clear BK284; clear HB; have BK284 := n0_; have HB := n1_; have BK285 := n2_; have GW285 := n3_; have GE285 := n4_; have NB284_285 := n5_; have NB285_284 := n6_; clear n0_ n1_ n2_ n3_ n4_ n5_ n6_; clear hb hbox hg) | ((with_reducible refine gate_callee (f := 32) rfl ?_); refine Cz.gL (N := (some 19)) Try.func32 #[] ?_; (with_reducible refine (waggonerlaw07_awake.calls  t286 _ A5.out).mono ?_); rintro e w9 ⟨rfl, hb⟩; refine ⟨_, rfl, ?_⟩; have n0_ := Cz.bk BK284 hb; have n1_ := Cz.bk BK285 hb; have n2_ := Cz.bs (w := w) hb; clear BK284; clear BK285; clear HB; have BK284 := n0_; have BK285 := n1_; have HB := n2_; clear n0_ n1_ n2_; (try clear hb); (try clear hb2); (try clear hk); (try clear hi)))
 (try simp only [Act.put, Kx.sb, Kx.sz, Kx.ss])
 go_cut [29] (fun v29 wc => ∃ (kq : Nat) (x29_5 : Bool), v29 = .bool x29_5 ∧ Aside0 (waggonerlaw07_ExtentTells.j0 kq a2 a3 t286 x29_5 a0_0 a0_1 a0_2 a0_3 l0_4 a1_0 a1_1 a1_2 a1_3 l1_4 = some true) ∧ Aside0 (kq ≤ k) ∧ Aside0 (wc.heap[gb284]? = some (.cells #[.int .i64 a0_0, .int .i64 a0_1, .int .i64 a0_2, .int .i64 a0_3, (.slice A0_4 l0_4.length c0_4)] 46 (0, 0))) ∧ Aside0 (wc.heap[gb285]? = some (.cells #[.int .i64 a1_0, .int .i64 a1_1, .int .i64 a1_2, .int .i64 a1_3, (.slice A1_4 l1_4.length c1_4)] 46 (0, 0))) ∧ Aside0 (Below w.heap.size w wc))
 case first =>
  have H := HC6.out
  clear HC6
  by_cases c10 : (l0_4.length : Int) > 3000
  ·rw [if_pos c10] at H
   have c10b0 : decide (3000 < (l0_4.length : Int)) = true := decide_eq_true c10
   have c10b1 : decide (3000 < l0_4.length) = true := decide_eq_true (by omega)
   clear c10
   (first | rw [c10b0] | (simp only [i64_w, i32_w]; rw [c10b0]) | skip)
   have H' := Aside0.mk H
   clear H
   have hnb11 := NB284_285.out
   have hnc11 := NB285_284.out
   obtain ⟨hcz12_0, hcz12_1, hcz12_2, hcz12_3, hcz12_4, hfz12_0, hfz12_1, hfz12_2, hfz12_3, hfz12_4⟩ := Cz.d5 BK284
   go_wp2
   go_meet
   case rel => exact ⟨_, (true), (by first | rfl | (simp; done) | (simp [*]; done)), H', ⟨by first | omega | exact Nat.le_refl _⟩, ⟨by (with_reducible repeat (first | refine blk_drewN ?_ _ | refine blk_drew ?_ | refine blk_alloc ?_ _)); exact BK284.out⟩, ⟨by (with_reducible repeat (first | refine blk_drewN ?_ _ | refine blk_drew ?_ | refine blk_alloc ?_ _)); exact BK285.out⟩, ⟨by repeat (first | (with_reducible first | exact HB.out | apply below_alloc | apply pw_below_drewN | apply below_drew1 | refine below_set ?_ GE284.out | refine below_set ?_ GE285.out) | exact HB.out)⟩⟩
  ·rw [if_neg c10] at H
   have c10b0 : decide (3000 < (l0_4.length : Int)) = false := decide_eq_false c10
   have c10b1 : decide (3000 < l0_4.length) = false := decide_eq_false (by omega)
   clear c10
   (first | rw [c10b0] | (simp only [i64_w, i32_w]; rw [c10b0]) | skip)
   have H' := Aside0.mk H
   clear H
   have hnb13 := NB284_285.out
   have hnc13 := NB285_284.out
   obtain ⟨hcz14_0, hcz14_1, hcz14_2, hcz14_3, hcz14_4, hfz14_0, hfz14_1, hfz14_2, hfz14_3, hfz14_4⟩ := Cz.d5 BK284
   obtain ⟨hcz15_0, hcz15_1, hcz15_2, hcz15_3, hcz15_4, hfz15_0, hfz15_1, hfz15_2, hfz15_3, hfz15_4⟩ := Cz.d5 BK285
   go_wp2
   go_meet
   case rel => exact ⟨_, (decide ((l1_4.length : Int) > 3000)), (by first | rfl | (simp; done) | (simp [*]; done)), H', ⟨by first | omega | exact Nat.le_refl _⟩, ⟨by (with_reducible repeat (first | refine blk_drewN ?_ _ | refine blk_drew ?_ | refine blk_alloc ?_ _)); exact BK284.out⟩, ⟨by (with_reducible repeat (first | refine blk_drewN ?_ _ | refine blk_drew ?_ | refine blk_alloc ?_ _)); exact BK285.out⟩, ⟨by repeat (first | (with_reducible first | exact HB.out | apply below_alloc | apply pw_below_drewN | apply below_drew1 | refine below_set ?_ GE284.out | refine below_set ?_ GE285.out) | exact HB.out)⟩⟩
 case rest =>
  clear HC6
  try clear c1
  try clear p2
  try clear c3
  try clear c10
  try clear c10b0
  try clear c10b1
  try clear c11
  try clear c13
  try clear hcz12_0
  try clear hcz12_1
  try clear hcz12_2
  try clear hcz12_3
  try clear hcz12_4
  try clear hcz14_0
  try clear hcz14_1
  try clear hcz14_2
  try clear hcz14_3
  try clear hcz14_4
  try clear hcz15_0
  try clear hcz15_1
  try clear hcz15_2
  try clear hcz15_3
  try clear hcz15_4
  try clear hfz12_0
  try clear hfz12_1
  try clear hfz12_2
  try clear hfz12_3
  try clear hfz12_4
  try clear hfz14_0
  try clear hfz14_1
  try clear hfz14_2
  try clear hfz14_3
  try clear hfz14_4
  try clear hfz15_0
  try clear hfz15_1
  try clear hfz15_2
  try clear hfz15_3
  try clear hfz15_4
  obtain ⟨kq, x29_5, rfl, HA, HJ5, BK284, BK285, HB⟩ := hcut
  cases kq with
  | zero => exact absurd HA.out (by simp [waggonerlaw07_ExtentTells.j0])
  | succ kj5 =>
   have H := HA.out
   clear HA
   simp only [waggonerlaw07_ExtentTells.j0] at H
   by_cases c16 : x29_5 = true
   ·subst c16
    rw [if_pos rfl] at H
    (have HRT := Aside0.mk (Option.some.inj H); clear H)
    go_wp2
    go_ret
    exact ⟨by first | rfl | (exact congrArg (fun z_ => Ending.returned (Value.bool z_)) HRT.out) | (rw [HRT.out]; done) | (simp [errW_none, errW_some] <;> rfl) | (simp [*, errW_none, errW_some] <;> rfl), by repeat (first | (with_reducible first | exact HB.out | apply below_alloc | apply pw_below_drewN | apply below_drew1 | refine below_set ?_ GE284.out | refine below_set ?_ GE285.out) | exact HB.out)⟩
   ·replace c16 := Bool.eq_false_iff.mpr c16
    subst c16
    rw [if_neg (show ¬ (false = true) by decide)] at H
    replace H := Option.bind_eq_some_iff.mp H
    obtain ⟨⟨t287, t288, t289, t290, t291, t294⟩, A170, H⟩ := H
    (try dsimp only at H)
    have A17 := Aside0.mk A170
    clear A170
    replace H := Option.bind_eq_some_iff.mp H
    obtain ⟨⟨t296, t297, t298, t299, t300, t303⟩, A180, H⟩ := H
    (try dsimp only at H)
    have A18 := Aside0.mk A180
    clear A180
    replace H := Option.bind_eq_some_iff.mp H
    obtain ⟨⟨t305, t306, t307, t308, t309, t312⟩, A190, H⟩ := H
    (try dsimp only at H)
    have A19 := Aside0.mk A190
    clear A190
    replace H := Option.bind_eq_some_iff.mp H
    obtain ⟨⟨t314, t315, t316, t317, t318, t321⟩, A200, H⟩ := H
    (try dsimp only at H)
    have A20 := Aside0.mk A200
    clear A200
    have HC21 := Aside0.mk H
    clear H
    have hnb22 := NB284_285.out
    have hnc22 := NB285_284.out
    obtain ⟨hcz23_0, hcz23_1, hcz23_2, hcz23_3, hcz23_4, hfz23_0, hfz23_1, hfz23_2, hfz23_3, hfz23_4⟩ := Cz.d5 BK284
    go_upto_region 8 with (first | ((with_reducible refine gate_callee (f := 33) rfl ?_); refine Cz.gL (N := (some 35)) Try.func33 #[.agg #[.int .i64 a0_0, .int .i64 a0_1, .int .i64 a0_2, .int .i64 a0_3, .slice A0_4 l0_4.length c0_4], .int .i64 a2, .int .i64 a3] ?_; (with_reducible refine (extent_Cut.calls a0_0 a0_1 a0_2 a0_3 _ _ l0_4 a2 a3 t287 t288 t289 t290 t291 t294 _ ?side1 ?side2 A17.out).mono ?_); (case side1 => exact Cz.cb HR0_4); (case side2 => exact HC0_4.out); rintro e w24 ⟨v292, rfl, ho0, hb⟩; refine ⟨_, rfl, ?_⟩; have n0_ := Aside0.mk (Kd.R_lower ho0 (below_size (by repeat (first | (with_reducible first | exact HB.out | apply below_alloc | apply pw_below_drewN | apply below_drew1 | refine below_set ?_ GE284.out | refine below_set ?_ GE285.out) | exact HB.out)))); have n1_ := Cz.bk BK284 hb; have n2_ := Cz.bk BK285 hb; have n3_ := Cz.bs (w := w) hb; clear BK284; clear BK285; clear HB; have HO293 := n0_; have BK284 := n1_; have BK285 := n2_; have HB := n3_; clear n0_ n1_ n2_ n3_; (try clear hb); (try clear hb2); (try clear hk); (try clear hi); (try clear ho0)) | ((with_reducible refine gate_dst (N := 10) rfl ?_); (try (refine gate_guard (by rfl) ?_; dsimp only)); refine box_event ?hg (N := 10) ?hd (cs := #[.int .i64 0, .int .i64 0, .int .i64 0, .int .i64 0, .slice none 0 0]) (t := 46) ?hr ?_; (case hd => rfl); (case hg => rfl); (case hr => first | (go_simp; done) | (go_simp; rfl)); intro gb295 hg w25 hbox hb; have n0_ := Cz.rb HO293 hb; have n1_ := Cz.bk BK284 hb; have n2_ := Cz.bk BK285 hb; have n3_ := Cz.bs (w := w) hb; have n4_ := Aside0.mk (hbox); have n5_ := Aside0.mk ((Cz.gs hg : w.heap.size ≤ gb295)); have n6_ := Aside0.mk ((Cz.gs hg : w.heap.size ≤ gb295)); have n7_ := Aside0.mk ((Cz.nl BK284 hg : gb284 ≠ gb295)); have n8_ := Aside0.mk ((Cz.nr BK284 hg : gb295 ≠ gb284)); have n9_ := Aside0.mk ((Cz.nl BK285 hg : gb285 ≠ gb295)); have n10_ := Aside0.mk ((Cz.nr BK285 hg : gb295 ≠ gb285)); clear HO293; clear BK284; clear BK285; clear HB; have HO293 := n0_; have BK284 := n1_; have BK285 := n2_; have HB := n3_; have BK295 := n4_; have GW295 := n5_; have GE295 := n6_; have NB284_295 := n7_; have NB295_284 := n8_; have NB285_295 := n9_; have NB295_285 := n10_; clear n0_ n1_ n2_ n3_ n4_ n5_ n6_ n7_ n8_ n9_ n10_; clear hb hbox hg; have hnb26 := NB295_284.out; have hnc26 := NB284_295.out; have hnb27 := NB295_285.out; have hnc27 := NB285_295.out; obtain ⟨hcz28_0, hcz28_1, hcz28_2, hcz28_3, hcz28_4, hfz28_0, hfz28_1, hfz28_2, hfz28_3, hfz28_4⟩ := Cz.d5 BK295; obtain ⟨Ao29, co29, eo29⟩ := Kd.R_slice HO293.out; subst eo29; obtain ⟨hcz30_0, hcz30_1, hcz30_2, hcz30_3, hcz30_4, hfz30_0, hfz30_1, hfz30_2, hfz30_3, hfz30_4⟩ := Cz.d5 BK284) | ((with_reducible refine gate_callee (f := 34) rfl ?_); refine Cz.gL (N := (some 42)) Try.func34 #[.agg #[.int .i64 a0_0, .int .i64 a0_1, .int .i64 a0_2, .int .i64 a0_3, .slice A0_4 l0_4.length c0_4], .int .i64 a2, .int .i64 a3] ?_; (with_reducible refine (waggonerref07_Cut.calls a0_0 a0_1 a0_2 a0_3 _ _ l0_4 a2 a3 t296 t297 t298 t299 t300 t303 _ ?side1 ?side2 A18.out).mono ?_); (case side1 => exact Kd.C_below HR0_4.out (by repeat (first | (with_reducible first | exact HB.out | apply below_alloc | apply pw_below_drewN | apply below_drew1 | refine below_set ?_ GE284.out | refine below_set ?_ GE285.out | refine below_set ?_ GE295.out) | exact HB.out))); (case side2 => exact HC0_4.out); rintro e w31 ⟨v301, rfl, ho0, hb⟩; refine ⟨_, rfl, ?_⟩; have n0_ := Aside0.mk (Kd.R_elder' (by (with_reducible repeat (first | apply Kd.R_alloc | apply Kd.R_drewN | apply Kd.R_drew)); exact (Kd.R_mono (Kd.R_far (p := ⟨gb295, 4, none⟩) (Kd.R_far (p := ⟨gb295, 3, none⟩) (Kd.R_far (p := ⟨gb295, 2, none⟩) (Kd.R_far (p := ⟨gb295, 1, none⟩) (Kd.R_far (p := ⟨gb295, 0, none⟩) (Kd.R_types HO293.out BK295.out (by decide)) (fun _ hk => hk.2) (.int .i64 t287)) (fun _ hk => hk.2) (.int .i64 t288)) (fun _ hk => hk.2) (.int .i64 t289)) (fun _ hk => hk.2) (.int .i64 t290)) (fun _ hk => hk.2) (.slice Ao29 t291.length co29)) (fun _ h_ => h_.1))) (Kd.R_base ho0) hb); have n1_ := Aside0.mk (Kd.R_lower (Kd.R_new' ho0 (Kd.R_lt (by (with_reducible repeat (first | apply Kd.R_alloc | apply Kd.R_drewN | apply Kd.R_drew)); exact (Kd.R_mono (Kd.R_far (p := ⟨gb295, 4, none⟩) (Kd.R_far (p := ⟨gb295, 3, none⟩) (Kd.R_far (p := ⟨gb295, 2, none⟩) (Kd.R_far (p := ⟨gb295, 1, none⟩) (Kd.R_far (p := ⟨gb295, 0, none⟩) (Kd.R_types HO293.out BK295.out (by decide)) (fun _ hk => hk.2) (.int .i64 t287)) (fun _ hk => hk.2) (.int .i64 t288)) (fun _ hk => hk.2) (.int .i64 t289)) (fun _ hk => hk.2) (.int .i64 t290)) (fun _ hk => hk.2) (.slice Ao29 t291.length co29)) (fun _ h_ => h_.1))))) (below_size (by repeat (first | (with_reducible first | exact HB.out | apply below_alloc | apply pw_below_drewN | apply below_drew1 | refine below_set ?_ GE284.out | refine below_set ?_ GE285.out | refine below_set ?_ GE295.out) | exact HB.out)))); have n2_ := Aside0.mk (blk_below (g := gb284) (o := .cells #[.int .i64 a0_0, .int .i64 a0_1, .int .i64 a0_2, .int .i64 a0_3, .slice A0_4 l0_4.length c0_4] 46 (0, 0)) (by (with_reducible repeat (first | refine blk_drewN ?_ _ | refine blk_drew ?_ | refine blk_alloc ?_ _)); refine blk_far ?_ NB284_295.out _; refine blk_far ?_ NB284_295.out _; refine blk_far ?_ NB284_295.out _; refine blk_far ?_ NB284_295.out _; refine blk_far ?_ NB284_295.out _; (with_reducible repeat (first | refine blk_drewN ?_ _ | refine blk_drew ?_ | refine blk_alloc ?_ _)); exact BK284.out) hb); have n3_ := Aside0.mk (blk_below (g := gb285) (o := .cells #[.int .i64 a1_0, .int .i64 a1_1, .int .i64 a1_2, .int .i64 a1_3, .slice A1_4 l1_4.length c1_4] 46 (0, 0)) (by (with_reducible repeat (first | refine blk_drewN ?_ _ | refine blk_drew ?_ | refine blk_alloc ?_ _)); refine blk_far ?_ NB285_295.out _; refine blk_far ?_ NB285_295.out _; refine blk_far ?_ NB285_295.out _; refine blk_far ?_ NB285_295.out _; refine blk_far ?_ NB285_295.out _; (with_reducible repeat (first | refine blk_drewN ?_ _ | refine blk_drew ?_ | refine blk_alloc ?_ _)); exact BK285.out) hb); have n4_ := Aside0.mk (blk_below (g := gb295) (o := .cells #[.int .i64 t287, .int .i64 t288, .int .i64 t289, .int .i64 t290, .slice Ao29 t291.length co29] 46 (0, 0)) (by (with_reducible repeat (first | refine blk_drewN ?_ _ | refine blk_drew ?_ | refine blk_alloc ?_ _)); refine blk_put (cs := #[.int .i64 t287, .int .i64 t288, .int .i64 t289, .int .i64 t290, .slice none 0 0]) ?_ 4 _ rfl; refine blk_put (cs := #[.int .i64 t287, .int .i64 t288, .int .i64 t289, .int .i64 0, .slice none 0 0]) ?_ 3 _ rfl; refine blk_put (cs := #[.int .i64 t287, .int .i64 t288, .int .i64 0, .int .i64 0, .slice none 0 0]) ?_ 2 _ rfl; refine blk_put (cs := #[.int .i64 t287, .int .i64 0, .int .i64 0, .int .i64 0, .slice none 0 0]) ?_ 1 _ rfl; refine blk_put (cs := #[.int .i64 0, .int .i64 0, .int .i64 0, .int .i64 0, .slice none 0 0]) ?_ 0 _ rfl; (with_reducible repeat (first | refine blk_drewN ?_ _ | refine blk_drew ?_ | refine blk_alloc ?_ _)); exact BK295.out) hb); have n5_ := Cz.bs (w := w) hb; clear HO293; clear BK284; clear BK285; clear BK295; clear HB; have HO293 := n0_; have HO302 := n1_; have BK284 := n2_; have BK285 := n3_; have BK295 := n4_; have HB := n5_; clear n0_ n1_ n2_ n3_ n4_ n5_; (try clear hb); (try clear hb2); (try clear hk); (try clear hi); (try clear ho0)) | ((with_reducible refine gate_dst (N := 12) rfl ?_); (try (refine gate_guard (by rfl) ?_; dsimp only)); refine box_event ?hg (N := 12) ?hd (cs := #[.int .i64 0, .int .i64 0, .int .i64 0, .int .i64 0, .slice none 0 0]) (t := 46) ?hr ?_; (case hd => rfl); (case hg => rfl); (case hr => first | (go_simp; done) | (go_simp; rfl)); intro gb304 hg w32 hbox hb; have n0_ := Cz.rb HO293 hb; have n1_ := Cz.rb HO302 hb; have n2_ := Cz.bk BK284 hb; have n3_ := Cz.bk BK285 hb; have n4_ := Cz.bk BK295 hb; have n5_ := Cz.bs (w := w) hb; have n6_ := Aside0.mk (hbox); have n7_ := Aside0.mk ((Cz.gs hg : w.heap.size ≤ gb304)); have n8_ := Aside0.mk ((Cz.gs hg : w.heap.size ≤ gb304)); have n9_ := Aside0.mk ((Cz.nl BK284 hg : gb284 ≠ gb304)); have n10_ := Aside0.mk ((Cz.nr BK284 hg : gb304 ≠ gb284)); have n11_ := Aside0.mk ((Cz.nl BK285 hg : gb285 ≠ gb304)); have n12_ := Aside0.mk ((Cz.nr BK285 hg : gb304 ≠ gb285)); have n13_ := Aside0.mk ((Cz.nl BK295 hg : gb295 ≠ gb304)); have n14_ := Aside0.mk ((Cz.nr BK295 hg : gb304 ≠ gb295)); clear HO293; clear HO302; clear BK284; clear BK285; clear BK295; clear HB; have HO293 := n0_; have HO302 := n1_; have BK284 := n2_; have BK285 := n3_; have BK295 := n4_; have HB := n5_; have BK304 := n6_; have GW304 := n7_; have GE304 := n8_; have NB284_304 := n9_; have NB304_284 := n10_; have NB285_304 := n11_; have NB304_285 := n12_; have NB295_304 := n13_; have NB304_295 := n14_; clear n0_ n1_ n2_ n3_ n4_ n5_ n6_ n7_ n8_ n9_ n10_ n11_ n12_ n13_ n14_; clear hb hbox hg; have hnb33 := NB304_284.out; have hnc33 := NB284_304.out; have hnb34 := NB304_285.out; have hnc34 := NB285_304.out; have hnb35 := NB304_295.out; have hnc35 := NB295_304.out; obtain ⟨hcz36_0, hcz36_1, hcz36_2, hcz36_3, hcz36_4, hfz36_0, hfz36_1, hfz36_2, hfz36_3, hfz36_4⟩ := Cz.d5 BK304; obtain ⟨Ao37, co37, eo37⟩ := Kd.R_slice HO302.out; subst eo37; obtain ⟨hcz38_0, hcz38_1, hcz38_2, hcz38_3, hcz38_4, hfz38_0, hfz38_1, hfz38_2, hfz38_3, hfz38_4⟩ := Cz.d5 BK284; obtain ⟨hcz39_0, hcz39_1, hcz39_2, hcz39_3, hcz39_4, hfz39_0, hfz39_1, hfz39_2, hfz39_3, hfz39_4⟩ := Cz.d5 BK285) | ((with_reducible refine gate_callee (f := 35) rfl ?_); refine Cz.gL (N := (some 48)) Try.func35 #[.agg #[.int .i64 a0_0, .int .i64 a0_1, .int .i64 a0_2, .int .i64 a0_3, .slice A0_4 l0_4.length c0_4], .agg #[.int .i64 a1_0, .int .i64 a1_1, .int .i64 a1_2, .int .i64 a1_3, .slice A1_4 l1_4.length c1_4]] ?_; (with_reducible refine (extent_Join.calls a0_0 a0_1 a0_2 a0_3 _ _ l0_4 a1_0 a1_1 a1_2 a1_3 _ _ l1_4 t305 t306 t307 t308 t309 t312 _ ?side1 ?side2 ?side3 ?side4 A19.out).mono ?_); (case side1 => exact Kd.C_below HR0_4.out (by repeat (first | (with_reducible first | exact HB.out | apply below_alloc | apply pw_below_drewN | apply below_drew1 | refine below_set ?_ GE284.out | refine below_set ?_ GE285.out | refine below_set ?_ GE295.out | refine below_set ?_ GE304.out) | exact HB.out))); (case side2 => exact HC0_4.out); (case side3 => exact Kd.C_below HR1_4.out (by repeat (first | (with_reducible first | exact HB.out | apply below_alloc | apply pw_below_drewN | apply below_drew1 | refine below_set ?_ GE284.out | refine below_set ?_ GE285.out | refine below_set ?_ GE295.out | refine below_set ?_ GE304.out) | exact HB.out))); (case side4 => exact HC1_4.out); rintro e w40 ⟨v310, rfl, ho0, hb⟩; refine ⟨_, rfl, ?_⟩; have n0_ := Aside0.mk (Kd.R_elder' (by (with_reducible repeat (first | apply Kd.R_alloc | apply Kd.R_drewN | apply Kd.R_drew)); exact (Kd.R_mono (Kd.R_far (p := ⟨gb304, 4, none⟩) (Kd.R_far (p := ⟨gb304, 3, none⟩) (Kd.R_far (p := ⟨gb304, 2, none⟩) (Kd.R_far (p := ⟨gb304, 1, none⟩) (Kd.R_far (p := ⟨gb304, 0, none⟩) (Kd.R_types HO293.out BK304.out (by decide)) (fun _ hk => hk.2) (.int .i64 t296)) (fun _ hk => hk.2) (.int .i64 t297)) (fun _ hk => hk.2) (.int .i64 t298)) (fun _ hk => hk.2) (.int .i64 t299)) (fun _ hk => hk.2) (.slice Ao37 t300.length co37)) (fun _ h_ => h_.1))) (Kd.R_base ho0) hb); have n1_ := Aside0.mk (Kd.R_elder' (by (with_reducible repeat (first | apply Kd.R_alloc | apply Kd.R_drewN | apply Kd.R_drew)); exact (Kd.R_mono (Kd.R_far (p := ⟨gb304, 4, none⟩) (Kd.R_far (p := ⟨gb304, 3, none⟩) (Kd.R_far (p := ⟨gb304, 2, none⟩) (Kd.R_far (p := ⟨gb304, 1, none⟩) (Kd.R_far (p := ⟨gb304, 0, none⟩) (Kd.R_types HO302.out BK304.out (by decide)) (fun _ hk => hk.2) (.int .i64 t296)) (fun _ hk => hk.2) (.int .i64 t297)) (fun _ hk => hk.2) (.int .i64 t298)) (fun _ hk => hk.2) (.int .i64 t299)) (fun _ hk => hk.2) (.slice Ao37 t300.length co37)) (fun _ h_ => h_.1))) (Kd.R_base ho0) hb); have n2_ := Aside0.mk (Kd.R_lower (Kd.R_new' (Kd.R_new' ho0 (Kd.R_lt (by (with_reducible repeat (first | apply Kd.R_alloc | apply Kd.R_drewN | apply Kd.R_drew)); exact (Kd.R_mono (Kd.R_far (p := ⟨gb304, 4, none⟩) (Kd.R_far (p := ⟨gb304, 3, none⟩) (Kd.R_far (p := ⟨gb304, 2, none⟩) (Kd.R_far (p := ⟨gb304, 1, none⟩) (Kd.R_far (p := ⟨gb304, 0, none⟩) (Kd.R_types HO293.out BK304.out (by decide)) (fun _ hk => hk.2) (.int .i64 t296)) (fun _ hk => hk.2) (.int .i64 t297)) (fun _ hk => hk.2) (.int .i64 t298)) (fun _ hk => hk.2) (.int .i64 t299)) (fun _ hk => hk.2) (.slice Ao37 t300.length co37)) (fun _ h_ => h_.1))))) (Kd.R_lt (by (with_reducible repeat (first | apply Kd.R_alloc | apply Kd.R_drewN | apply Kd.R_drew)); exact (Kd.R_mono (Kd.R_far (p := ⟨gb304, 4, none⟩) (Kd.R_far (p := ⟨gb304, 3, none⟩) (Kd.R_far (p := ⟨gb304, 2, none⟩) (Kd.R_far (p := ⟨gb304, 1, none⟩) (Kd.R_far (p := ⟨gb304, 0, none⟩) (Kd.R_types HO302.out BK304.out (by decide)) (fun _ hk => hk.2) (.int .i64 t296)) (fun _ hk => hk.2) (.int .i64 t297)) (fun _ hk => hk.2) (.int .i64 t298)) (fun _ hk => hk.2) (.int .i64 t299)) (fun _ hk => hk.2) (.slice Ao37 t300.length co37)) (fun _ h_ => h_.1))))) (below_size (by repeat (first | (with_reducible first | exact HB.out | apply below_alloc | apply pw_below_drewN | apply below_drew1 | refine below_set ?_ GE284.out | refine below_set ?_ GE285.out | refine below_set ?_ GE295.out | refine below_set ?_ GE304.out) | exact HB.out)))); have n3_ := Aside0.mk (blk_below (g := gb284) (o := .cells #[.int .i64 a0_0, .int .i64 a0_1, .int .i64 a0_2, .int .i64 a0_3, .slice A0_4 l0_4.length c0_4] 46 (0, 0)) (by (with_reducible repeat (first | refine blk_drewN ?_ _ | refine blk_drew ?_ | refine blk_alloc ?_ _)); refine blk_far ?_ NB284_304.out _; refine blk_far ?_ NB284_304.out _; refine blk_far ?_ NB284_304.out _; refine blk_far ?_ NB284_304.out _; refine blk_far ?_ NB284_304.out _; (with_reducible repeat (first | refine blk_drewN ?_ _ | refine blk_drew ?_ | refine blk_alloc ?_ _)); exact BK284.out) hb); have n4_ := Aside0.mk (blk_below (g := gb285) (o := .cells #[.int .i64 a1_0, .int .i64 a1_1, .int .i64 a1_2, .int .i64 a1_3, .slice A1_4 l1_4.length c1_4] 46 (0, 0)) (by (with_reducible repeat (first | refine blk_drewN ?_ _ | refine blk_drew ?_ | refine blk_alloc ?_ _)); refine blk_far ?_ NB285_304.out _; refine blk_far ?_ NB285_304.out _; refine blk_far ?_ NB285_304.out _; refine blk_far ?_ NB285_304.out _; refine blk_far ?_ NB285_304.out _; (with_reducible repeat (first | refine blk_drewN ?_ _ | refine blk_drew ?_ | refine blk_alloc ?_ _)); exact BK285.out) hb); have n5_ := Aside0.mk (blk_below (g := gb295) (o := .cells #[.int .i64 t287, .int .i64 t288, .int .i64 t289, .int .i64 t290, .slice Ao29 t291.length co29] 46 (0, 0)) (by (with_reducible repeat (first | refine blk_drewN ?_ _ | refine blk_drew ?_ | refine blk_alloc ?_ _)); refine blk_far ?_ NB295_304.out _; refine blk_far ?_ NB295_304.out _; refine blk_far ?_ NB295_304.out _; refine blk_far ?_ NB295_304.out _; refine blk_far ?_ NB295_304.out _; (with_reducible repeat (first | refine blk_drewN ?_ _ | refine blk_drew ?_ | refine blk_alloc ?_ _)); exact BK295.out) hb); have n6_ := Aside0.mk (blk_below (g := gb304) (o := .cells #[.int .i64 t296, .int .i64 t297, .int .i64 t298, .int .i64 t299, .slice Ao37 t300.length co37] 46 (0, 0)) (by (with_reducible repeat (first | refine blk_drewN ?_ _ | refine blk_drew ?_ | refine blk_alloc ?_ _)); refine blk_put (cs := #[.int .i64 t296, .int .i64 t297, .int .i64 t298, .int .i64 t299, .slice none 0 0]) ?_ 4 _ rfl; refine blk_put (cs := #[.int .i64 t296, .int .i64 t297, .int .i64 t298, .int .i64 0, .slice none 0 0]) ?_ 3 _ rfl; refine blk_put (cs := #[.int .i64 t296, .int .i64 t297, .int .i64 0, .int .i64 0, .slice none 0 0]) ?_ 2 _ rfl; refine blk_put (cs := #[.int .i64 t296, .int .i64 0, .int .i64 0, .int .i64 0, .slice none 0 0]) ?_ 1 _ rfl; refine blk_put (cs := #[.int .i64 0, .int .i64 0, .int .i64 0, .int .i64 0, .slice none 0 0]) ?_ 0 _ rfl; (with_reducible repeat (first | refine blk_drewN ?_ _ | refine blk_drew ?_ | refine blk_alloc ?_ _)); exact BK304.out) hb); have n7_ := Cz.bs (w := w) hb; clear HO293; clear HO302; clear BK284; clear BK285; clear BK295; clear BK304; clear HB; have HO293 := n0_; have HO302 := n1_; have HO311 := n2_; have BK284 := n3_; have BK285 := n4_; have BK295 := n5_; have BK304 := n6_; have HB := n7_; clear n0_ n1_ n2_ n3_ n4_ n5_ n6_ n7_; (try clear hb); (try clear hb2); (try clear hk); (try clear hi); (try clear ho0)) | ((with_reducible refine gate_dst (N := 14) rfl ?_); (try (refine gate_guard (by rfl) ?_; dsimp only)); refine box_event ?hg (N := 14) ?hd (cs := #[.int .i64 0, .int .i64 0, .int .i64 0, .int .i64 0, .slice none 0 0]) (t := 46) ?hr ?_; (case hd => rfl); (case hg => rfl); (case hr => first | (go_simp; done) | (go_simp; rfl)); intro gb313 hg w41 hbox hb; have n0_ := Cz.rb HO293 hb; have n1_ := Cz.rb HO302 hb; have n2_ := Cz.rb HO311 hb; have n3_ := Cz.bk BK284 hb; have n4_ := Cz.bk BK285 hb; have n5_ := Cz.bk BK295 hb; have n6_ := Cz.bk BK304 hb; have n7_ := Cz.bs (w := w) hb; have n8_ := Aside0.mk (hbox); have n9_ := Aside0.mk ((Cz.gs hg : w.heap.size ≤ gb313)); have n10_ := Aside0.mk ((Cz.gs hg : w.heap.size ≤ gb313)); have n11_ := Aside0.mk ((Cz.nl BK284 hg : gb284 ≠ gb313)); have n12_ := Aside0.mk ((Cz.nr BK284 hg : gb313 ≠ gb284)); have n13_ := Aside0.mk ((Cz.nl BK285 hg : gb285 ≠ gb313)); have n14_ := Aside0.mk ((Cz.nr BK285 hg : gb313 ≠ gb285)); have n15_ := Aside0.mk ((Cz.nl BK295 hg : gb295 ≠ gb313)); have n16_ := Aside0.mk ((Cz.nr BK295 hg : gb313 ≠ gb295)); have n17_ := Aside0.mk ((Cz.nl BK304 hg : gb304 ≠ gb313)); have n18_ := Aside0.mk ((Cz.nr BK304 hg : gb313 ≠ gb304)); clear HO293; clear HO302; clear HO311; clear BK284; clear BK285; clear BK295; clear BK304; clear HB; have HO293 := n0_; have HO302 := n1_; have HO311 := n2_; have BK284 := n3_; have BK285 := n4_; have BK295 := n5_; have BK304 := n6_; have HB := n7_; have BK313 := n8_; have GW313 := n9_; have GE313 := n10_; have NB284_313 := n11_; have NB313_284 := n12_; have NB285_313 := n13_; have NB313_285 := n14_; have NB295_313 := n15_; have NB313_295 := n16_; have NB304_313 := n17_; have NB313_304 := n18_; clear n0_ n1_ n2_ n3_ n4_ n5_ n6_ n7_ n8_ n9_ n10_ n11_ n12_ n13_ n14_ n15_ n16_ n17_ n18_; clear hb hbox hg; have hnb42 := NB313_284.out; have hnc42 := NB284_313.out; have hnb43 := NB313_285.out; have hnc43 := NB285_313.out; have hnb44 := NB313_295.out; have hnc44 := NB295_313.out; have hnb45 := NB313_304.out; have hnc45 := NB304_313.out; obtain ⟨hcz46_0, hcz46_1, hcz46_2, hcz46_3, hcz46_4, hfz46_0, hfz46_1, hfz46_2, hfz46_3, hfz46_4⟩ := Cz.d5 BK313; obtain ⟨Ao47, co47, eo47⟩ := Kd.R_slice HO311.out; subst eo47; obtain ⟨hcz48_0, hcz48_1, hcz48_2, hcz48_3, hcz48_4, hfz48_0, hfz48_1, hfz48_2, hfz48_3, hfz48_4⟩ := Cz.d5 BK284; obtain ⟨hcz49_0, hcz49_1, hcz49_2, hcz49_3, hcz49_4, hfz49_0, hfz49_1, hfz49_2, hfz49_3, hfz49_4⟩ := Cz.d5 BK285) | ((with_reducible refine gate_callee (f := 36) rfl ?_); refine Cz.gL (N := (some 54)) Try.func36 #[.agg #[.int .i64 a0_0, .int .i64 a0_1, .int .i64 a0_2, .int .i64 a0_3, .slice A0_4 l0_4.length c0_4], .agg #[.int .i64 a1_0, .int .i64 a1_1, .int .i64 a1_2, .int .i64 a1_3, .slice A1_4 l1_4.length c1_4]] ?_; (with_reducible refine (waggonerref07_Join.calls a0_0 a0_1 a0_2 a0_3 _ _ l0_4 a1_0 a1_1 a1_2 a1_3 _ _ l1_4 t314 t315 t316 t317 t318 t321 _ ?side1 ?side2 ?side3 ?side4 A20.out).mono ?_); (case side1 => exact Kd.C_below HR0_4.out (by repeat (first | (with_reducible first | exact HB.out | apply below_alloc | apply pw_below_drewN | apply below_drew1 | refine below_set ?_ GE284.out | refine below_set ?_ GE285.out | refine below_set ?_ GE295.out | refine below_set ?_ GE304.out | refine below_set ?_ GE313.out) | exact HB.out))); (case side2 => exact HC0_4.out); (case side3 => exact Kd.C_below HR1_4.out (by repeat (first | (with_reducible first | exact HB.out | apply below_alloc | apply pw_below_drewN | apply below_drew1 | refine below_set ?_ GE284.out | refine below_set ?_ GE285.out | refine below_set ?_ GE295.out | refine below_set ?_ GE304.out | refine below_set ?_ GE313.out) | exact HB.out))); (case side4 => exact HC1_4.out); rintro e w50 ⟨v319, rfl, ho0, hb⟩; refine ⟨_, rfl, ?_⟩; have n0_ := Aside0.mk (Kd.R_elder' (by (with_reducible repeat (first | apply Kd.R_alloc | apply Kd.R_drewN | apply Kd.R_drew)); exact (Kd.R_mono (Kd.R_far (p := ⟨gb313, 4, none⟩) (Kd.R_far (p := ⟨gb313, 3, none⟩) (Kd.R_far (p := ⟨gb313, 2, none⟩) (Kd.R_far (p := ⟨gb313, 1, none⟩) (Kd.R_far (p := ⟨gb313, 0, none⟩) (Kd.R_types HO293.out BK313.out (by decide)) (fun _ hk => hk.2) (.int .i64 t305)) (fun _ hk => hk.2) (.int .i64 t306)) (fun _ hk => hk.2) (.int .i64 t307)) (fun _ hk => hk.2) (.int .i64 t308)) (fun _ hk => hk.2) (.slice Ao47 t309.length co47)) (fun _ h_ => h_.1))) (Kd.R_base ho0) hb); have n1_ := Aside0.mk (Kd.R_elder' (by (with_reducible repeat (first | apply Kd.R_alloc | apply Kd.R_drewN | apply Kd.R_drew)); exact (Kd.R_mono (Kd.R_far (p := ⟨gb313, 4, none⟩) (Kd.R_far (p := ⟨gb313, 3, none⟩) (Kd.R_far (p := ⟨gb313, 2, none⟩) (Kd.R_far (p := ⟨gb313, 1, none⟩) (Kd.R_far (p := ⟨gb313, 0, none⟩) (Kd.R_types HO302.out BK313.out (by decide)) (fun _ hk => hk.2) (.int .i64 t305)) (fun _ hk => hk.2) (.int .i64 t306)) (fun _ hk => hk.2) (.int .i64 t307)) (fun _ hk => hk.2) (.int .i64 t308)) (fun _ hk => hk.2) (.slice Ao47 t309.length co47)) (fun _ h_ => h_.1))) (Kd.R_base ho0) hb); have n2_ := Aside0.mk (Kd.R_elder' (by (with_reducible repeat (first | apply Kd.R_alloc | apply Kd.R_drewN | apply Kd.R_drew)); exact (Kd.R_mono (Kd.R_far (p := ⟨gb313, 4, none⟩) (Kd.R_far (p := ⟨gb313, 3, none⟩) (Kd.R_far (p := ⟨gb313, 2, none⟩) (Kd.R_far (p := ⟨gb313, 1, none⟩) (Kd.R_far (p := ⟨gb313, 0, none⟩) (Kd.R_types HO311.out BK313.out (by decide)) (fun _ hk => hk.2) (.int .i64 t305)) (fun _ hk => hk.2) (.int .i64 t306)) (fun _ hk => hk.2) (.int .i64 t307)) (fun _ hk => hk.2) (.int .i64 t308)) (fun _ hk => hk.2) (.slice Ao47 t309.length co47)) (fun _ h_ => h_.1))) (Kd.R_base ho0) hb); have n3_ := Aside0.mk (Kd.R_lower (Kd.R_new' (Kd.R_new' (Kd.R_new' ho0 (Kd.R_lt (by (with_reducible repeat (first | apply Kd.R_alloc | apply Kd.R_drewN | apply Kd.R_drew)); exact (Kd.R_mono (Kd.R_far (p := ⟨gb313, 4, none⟩) (Kd.R_far (p := ⟨gb313, 3, none⟩) (Kd.R_far (p := ⟨gb313, 2, none⟩) (Kd.R_far (p := ⟨gb313, 1, none⟩) (Kd.R_far (p := ⟨gb313, 0, none⟩) (Kd.R_types HO293.out BK313.out (by decide)) (fun _ hk => hk.2) (.int .i64 t305)) (fun _ hk => hk.2) (.int .i64 t306)) (fun _ hk => hk.2) (.int .i64 t307)) (fun _ hk => hk.2) (.int .i64 t308)) (fun _ hk => hk.2) (.slice Ao47 t309.length co47)) (fun _ h_ => h_.1))))) (Kd.R_lt (by (with_reducible repeat (first | apply Kd.R_alloc | apply Kd.R_drewN | apply Kd.R_drew)); exact (Kd.R_mono (Kd.R_far (p := ⟨gb313, 4, none⟩) (Kd.R_far (p := ⟨gb313, 3, none⟩) (Kd.R_far (p := ⟨gb313, 2, none⟩) (Kd.R_far (p := ⟨gb313, 1, none⟩) (Kd.R_far (p := ⟨gb313, 0, none⟩) (Kd.R_types HO302.out BK313.out (by decide)) (fun _ hk => hk.2) (.int .i64 t305)) (fun _ hk => hk.2) (.int .i64 t306)) (fun _ hk => hk.2) (.int .i64 t307)) (fun _ hk => hk.2) (.int .i64 t308)) (fun _ hk => hk.2) (.slice Ao47 t309.length co47)) (fun _ h_ => h_.1))))) (Kd.R_lt (by (with_reducible repeat (first | apply Kd.R_alloc | apply Kd.R_drewN | apply Kd.R_drew)); exact (Kd.R_mono (Kd.R_far (p := ⟨gb313, 4, none⟩) (Kd.R_far (p := ⟨gb313, 3, none⟩) (Kd.R_far (p := ⟨gb313, 2, none⟩) (Kd.R_far (p := ⟨gb313, 1, none⟩) (Kd.R_far (p := ⟨gb313, 0, none⟩) (Kd.R_types HO311.out BK313.out (by decide)) (fun _ hk => hk.2) (.int .i64 t305)) (fun _ hk => hk.2) (.int .i64 t306)) (fun _ hk => hk.2) (.int .i64 t307)) (fun _ hk => hk.2) (.int .i64 t308)) (fun _ hk => hk.2) (.slice Ao47 t309.length co47)) (fun _ h_ => h_.1))))) (below_size (by repeat (first | (with_reducible first | exact HB.out | apply below_alloc | apply pw_below_drewN | apply below_drew1 | refine below_set ?_ GE284.out | refine below_set ?_ GE285.out | refine below_set ?_ GE295.out | refine below_set ?_ GE304.out | refine below_set ?_ GE313.out) | exact HB.out)))); have n4_ := Aside0.mk (blk_below (g := gb284) (o := .cells #[.int .i64 a0_0, .int .i64 a0_1, .int .i64 a0_2, .int .i64 a0_3, .slice A0_4 l0_4.length c0_4] 46 (0, 0)) (by (with_reducible repeat (first | refine blk_drewN ?_ _ | refine blk_drew ?_ | refine blk_alloc ?_ _)); refine blk_far ?_ NB284_313.out _; refine blk_far ?_ NB284_313.out _; refine blk_far ?_ NB284_313.out _; refine blk_far ?_ NB284_313.out _; refine blk_far ?_ NB284_313.out _; (with_reducible repeat (first | refine blk_drewN ?_ _ | refine blk_drew ?_ | refine blk_alloc ?_ _)); exact BK284.out) hb); have n5_ := Aside0.mk (blk_below (g := gb285) (o := .cells #[.int .i64 a1_0, .int .i64 a1_1, .int .i64 a1_2, .int .i64 a1_3, .slice A1_4 l1_4.length c1_4] 46 (0, 0)) (by (with_reducible repeat (first | refine blk_drewN ?_ _ | refine blk_drew ?_ | refine blk_alloc ?_ _)); refine blk_far ?_ NB285_313.out _; refine blk_far ?_ NB285_313.out _; refine blk_far ?_ NB285_313.out _; refine blk_far ?_ NB285_313.out _; refine blk_far ?_ NB285_313.out _; (with_reducible repeat (first | refine blk_drewN ?_ _ | refine blk_drew ?_ | refine blk_alloc ?_ _)); exact BK285.out) hb); have n6_ := Aside0.mk (blk_below (g := gb295) (o := .cells #[.int .i64 t287, .int .i64 t288, .int .i64 t289, .int .i64 t290, .slice Ao29 t291.length co29] 46 (0, 0)) (by (with_reducible repeat (first | refine blk_drewN ?_ _ | refine blk_drew ?_ | refine blk_alloc ?_ _)); refine blk_far ?_ NB295_313.out _; refine blk_far ?_ NB295_313.out _; refine blk_far ?_ NB295_313.out _; refine blk_far ?_ NB295_313.out _; refine blk_far ?_ NB295_313.out _; (with_reducible repeat (first | refine blk_drewN ?_ _ | refine blk_drew ?_ | refine blk_alloc ?_ _)); exact BK295.out) hb); have n7_ := Aside0.mk (blk_below (g := gb304) (o := .cells #[.int .i64 t296, .int .i64 t297, .int .i64 t298, .int .i64 t299, .slice Ao37 t300.length co37] 46 (0, 0)) (by (with_reducible repeat (first | refine blk_drewN ?_ _ | refine blk_drew ?_ | refine blk_alloc ?_ _)); refine blk_far ?_ NB304_313.out _; refine blk_far ?_ NB304_313.out _; refine blk_far ?_ NB304_313.out _; refine blk_far ?_ NB304_313.out _; refine blk_far ?_ NB304_313.out _; (with_reducible repeat (first | refine blk_drewN ?_ _ | refine blk_drew ?_ | refine blk_alloc ?_ _)); exact BK304.out) hb); have n8_ := Aside0.mk (blk_below (g := gb313) (o := .cells #[.int .i64 t305, .int .i64 t306, .int .i64 t307, .int .i64 t308, .slice Ao47 t309.length co47] 46 (0, 0)) (by (with_reducible repeat (first | refine blk_drewN ?_ _ | refine blk_drew ?_ | refine blk_alloc ?_ _)); refine blk_put (cs := #[.int .i64 t305, .int .i64 t306, .int .i64 t307, .int .i64 t308, .slice none 0 0]) ?_ 4 _ rfl; refine blk_put (cs := #[.int .i64 t305, .int .i64 t306, .int .i64 t307, .int .i64 0, .slice none 0 0]) ?_ 3 _ rfl; refine blk_put (cs := #[.int .i64 t305, .int .i64 t306, .int .i64 0, .int .i64 0, .slice none 0 0]) ?_ 2 _ rfl; refine blk_put (cs := #[.int .i64 t305, .int .i64 0, .int .i64 0, .int .i64 0, .slice none 0 0]) ?_ 1 _ rfl; refine blk_put (cs := #[.int .i64 0, .int .i64 0, .int .i64 0, .int .i64 0, .slice none 0 0]) ?_ 0 _ rfl; (with_reducible repeat (first | refine blk_drewN ?_ _ | refine blk_drew ?_ | refine blk_alloc ?_ _)); exact BK313.out) hb); have n9_ := Cz.bs (w := w) hb; clear HO293; clear HO302; clear HO311; clear BK284; clear BK285; clear BK295; clear BK304; clear BK313; clear HB; have HO293 := n0_; have HO302 := n1_; have HO311 := n2_; have HO320 := n3_; have BK284 := n4_; have BK285 := n5_; have BK295 := n6_; have BK304 := n7_; have BK313 := n8_; have HB := n9_; clear n0_ n1_ n2_ n3_ n4_ n5_ n6_ n7_ n8_ n9_; (try clear hb); (try clear hb2); (try clear hk); (try clear hi); (try clear ho0)) | ((with_reducible refine gate_dst (N := 16) rfl ?_); (try (refine gate_guard (by rfl) ?_; dsimp only)); refine box_event ?hg (N := 16) ?hd (cs := #[.int .i64 0, .int .i64 0, .int .i64 0, .int .i64 0, .slice none 0 0]) (t := 46) ?hr ?_; (case hd => rfl); (case hg => rfl); (case hr => first | (go_simp; done) | (go_simp; rfl)); intro gb322 hg w51 hbox hb; have n0_ := Cz.rb HO293 hb; have n1_ := Cz.rb HO302 hb; have n2_ := Cz.rb HO311 hb; have n3_ := Cz.rb HO320 hb; have n4_ := Cz.bk BK284 hb; have n5_ := Cz.bk BK285 hb; have n6_ := Cz.bk BK295 hb; have n7_ := Cz.bk BK304 hb; have n8_ := Cz.bk BK313 hb; have n9_ := Cz.bs (w := w) hb; have n10_ := Aside0.mk (hbox); have n11_ := Aside0.mk ((Cz.gs hg : w.heap.size ≤ gb322)); have n12_ := Aside0.mk ((Cz.gs hg : w.heap.size ≤ gb322)); have n13_ := Aside0.mk ((Cz.nl BK284 hg : gb284 ≠ gb322)); have n14_ := Aside0.mk ((Cz.nr BK284 hg : gb322 ≠ gb284)); have n15_ := Aside0.mk ((Cz.nl BK285 hg : gb285 ≠ gb322)); have n16_ := Aside0.mk ((Cz.nr BK285 hg : gb322 ≠ gb285)); have n17_ := Aside0.mk ((Cz.nl BK295 hg : gb295 ≠ gb322)); have n18_ := Aside0.mk ((Cz.nr BK295 hg : gb322 ≠ gb295)); have n19_ := Aside0.mk ((Cz.nl BK304 hg : gb304 ≠ gb322)); have n20_ := Aside0.mk ((Cz.nr BK304 hg : gb322 ≠ gb304)); have n21_ := Aside0.mk ((Cz.nl BK313 hg : gb313 ≠ gb322)); have n22_ := Aside0.mk ((Cz.nr BK313 hg : gb322 ≠ gb313)); clear HO293; clear HO302; clear HO311; clear HO320; clear BK284; clear BK285; clear BK295; clear BK304; clear BK313; clear HB; have HO293 := n0_; have HO302 := n1_; have HO311 := n2_; have HO320 := n3_; have BK284 := n4_; have BK285 := n5_; have BK295 := n6_; have BK304 := n7_; have BK313 := n8_; have HB := n9_; have BK322 := n10_; have GW322 := n11_; have GE322 := n12_; have NB284_322 := n13_; have NB322_284 := n14_; have NB285_322 := n15_; have NB322_285 := n16_; have NB295_322 := n17_; have NB322_295 := n18_; have NB304_322 := n19_; have NB322_304 := n20_; have NB313_322 := n21_; have NB322_313 := n22_; clear n0_ n1_ n2_ n3_ n4_ n5_ n6_ n7_ n8_ n9_ n10_ n11_ n12_ n13_ n14_ n15_ n16_ n17_ n18_ n19_ n20_ n21_ n22_; clear hb hbox hg; have hnb52 := NB322_284.out; have hnc52 := NB284_322.out; have hnb53 := NB322_285.out; have hnc53 := NB285_322.out; have hnb54 := NB322_295.out; have hnc54 := NB295_322.out; have hnb55 := NB322_304.out; have hnc55 := NB304_322.out; have hnb56 := NB322_313.out; have hnc56 := NB313_322.out; obtain ⟨hcz57_0, hcz57_1, hcz57_2, hcz57_3, hcz57_4, hfz57_0, hfz57_1, hfz57_2, hfz57_3, hfz57_4⟩ := Cz.d5 BK322; obtain ⟨Ao58, co58, eo58⟩ := Kd.R_slice HO320.out; subst eo58))
    (try simp only [Act.put, Kx.sb, Kx.sz, Kx.ss])
    go_cut [18] (fun v18 wc => ∃ (kq : Nat) (x18_20 : Bool), v18 = .bool x18_20 ∧ Aside0 (waggonerlaw07_ExtentTells.j1 kq t286 t294 t303 t312 t321 x18_20 a0_0 a0_1 a0_2 a0_3 l0_4 a1_0 a1_1 a1_2 a1_3 l1_4 = some true) ∧ Aside0 (kq ≤ kj5) ∧ Aside0 (Kd.R (Kd.int .u8) 5 wc w.heap.size (fun k_ => some k_ ≠ ((.slice Ao37 t300.length co37) : Value).ownBlock ∧ some k_ ≠ ((.slice Ao47 t309.length co47) : Value).ownBlock ∧ some k_ ≠ ((.slice Ao58 t318.length co58) : Value).ownBlock) (.slice Ao29 t291.length co29) t291) ∧ Aside0 (Kd.R (Kd.int .u8) 5 wc w.heap.size (fun k_ => some k_ ≠ ((.slice Ao29 t291.length co29) : Value).ownBlock ∧ some k_ ≠ ((.slice Ao47 t309.length co47) : Value).ownBlock ∧ some k_ ≠ ((.slice Ao58 t318.length co58) : Value).ownBlock) (.slice Ao37 t300.length co37) t300) ∧ Aside0 (Kd.R (Kd.int .u8) 5 wc w.heap.size (fun k_ => some k_ ≠ ((.slice Ao29 t291.length co29) : Value).ownBlock ∧ some k_ ≠ ((.slice Ao37 t300.length co37) : Value).ownBlock ∧ some k_ ≠ ((.slice Ao58 t318.length co58) : Value).ownBlock) (.slice Ao47 t309.length co47) t309) ∧ Aside0 (Kd.R (Kd.int .u8) 5 wc w.heap.size (fun k_ => some k_ ≠ ((.slice Ao29 t291.length co29) : Value).ownBlock ∧ some k_ ≠ ((.slice Ao37 t300.length co37) : Value).ownBlock ∧ some k_ ≠ ((.slice Ao47 t309.length co47) : Value).ownBlock) (.slice Ao58 t318.length co58) t318) ∧ Aside0 (wc.heap[gb284]? = some (.cells #[.int .i64 a0_0, .int .i64 a0_1, .int .i64 a0_2, .int .i64 a0_3, (.slice A0_4 l0_4.length c0_4)] 46 (0, 0))) ∧ Aside0 (wc.heap[gb285]? = some (.cells #[.int .i64 a1_0, .int .i64 a1_1, .int .i64 a1_2, .int .i64 a1_3, (.slice A1_4 l1_4.length c1_4)] 46 (0, 0))) ∧ Aside0 (wc.heap[gb295]? = some (.cells #[.int .i64 t287, .int .i64 t288, .int .i64 t289, .int .i64 t290, (.slice Ao29 t291.length co29)] 46 (0, 0))) ∧ Aside0 (wc.heap[gb304]? = some (.cells #[.int .i64 t296, .int .i64 t297, .int .i64 t298, .int .i64 t299, (.slice Ao37 t300.length co37)] 46 (0, 0))) ∧ Aside0 (wc.heap[gb313]? = some (.cells #[.int .i64 t305, .int .i64 t306, .int .i64 t307, .int .i64 t308, (.slice Ao47 t309.length co47)] 46 (0, 0))) ∧ Aside0 (wc.heap[gb322]? = some (.cells #[.int .i64 t314, .int .i64 t315, .int .i64 t316, .int .i64 t317, (.slice Ao58 t318.length co58)] 46 (0, 0))) ∧ Aside0 (Below w.heap.size w wc))
    case first =>
     have H := HC21.out
     clear HC21
     replace H := Option.bind_eq_some_iff.mp H
     obtain ⟨t323, A590, H⟩ := H
     (try dsimp only at H)
     have A59 := Aside0.mk A590
     clear A590
     by_cases c60 : t323 = true
     ·subst c60
      rw [if_pos rfl] at H
      replace H := Option.bind_eq_some_iff.mp H
      obtain ⟨t324, A610, H⟩ := H
      (try dsimp only at H)
      have A61 := Aside0.mk A610
      clear A610
      have H' := Aside0.mk H
      clear H
      have hnb62 := NB295_284.out
      have hnc62 := NB284_295.out
      have hnb63 := NB295_285.out
      have hnc63 := NB285_295.out
      have hnb64 := NB295_304.out
      have hnc64 := NB304_295.out
      have hnb65 := NB295_313.out
      have hnc65 := NB313_295.out
      have hnb66 := NB295_322.out
      have hnc66 := NB322_295.out
      obtain ⟨hcz67_0, hcz67_1, hcz67_2, hcz67_3, hcz67_4, hfz67_0, hfz67_1, hfz67_2, hfz67_3, hfz67_4⟩ := Cz.d5 BK295
      have hnb68 := NB304_284.out
      have hnc68 := NB284_304.out
      have hnb69 := NB304_285.out
      have hnc69 := NB285_304.out
      have hnb70 := NB304_313.out
      have hnc70 := NB313_304.out
      have hnb71 := NB304_322.out
      have hnc71 := NB322_304.out
      obtain ⟨hcz72_0, hcz72_1, hcz72_2, hcz72_3, hcz72_4, hfz72_0, hfz72_1, hfz72_2, hfz72_3, hfz72_4⟩ := Cz.d5 BK304
      go_wp2_with (first | ((with_reducible refine gate_callee (f := 37) rfl ?_); refine Cz.gL (N := (some 59)) Try.func37 #[.agg #[.int .i64 t287, .int .i64 t288, .int .i64 t289, .int .i64 t290, .slice Ao29 t291.length co29], .agg #[.int .i64 t296, .int .i64 t297, .int .i64 t298, .int .i64 t299, .slice Ao37 t300.length co37]] ?_; (with_reducible refine (waggonerref07_Same.calls t287 t288 t289 t290 _ _ t291 t296 t297 t298 t299 _ _ t300 true _ ?side1 ?side2 ?side3 ?side4 A59.out).mono ?_); (case side1 => refine (Kd.R_reads' (e := 5) (base := w.heap.size) (ok := fun k_ => (((True ∧ some k_ ≠ (.slice Ao37 t300.length co37 : Value).ownBlock) ∧ some k_ ≠ (.slice Ao47 t309.length co47 : Value).ownBlock) ∧ some k_ ≠ (.slice Ao58 t318.length co58 : Value).ownBlock)) (n := t291.length) (c := co29) ?_).2.2; exact (by (with_reducible repeat (first | apply Kd.R_alloc | apply Kd.R_drewN | apply Kd.R_drew)); exact (Kd.R_mono (Kd.R_far (p := ⟨gb322, 4, none⟩) (Kd.R_far (p := ⟨gb322, 3, none⟩) (Kd.R_far (p := ⟨gb322, 2, none⟩) (Kd.R_far (p := ⟨gb322, 1, none⟩) (Kd.R_far (p := ⟨gb322, 0, none⟩) (Kd.R_types HO293.out BK322.out (by decide)) (fun _ hk => hk.2) (.int .i64 t314)) (fun _ hk => hk.2) (.int .i64 t315)) (fun _ hk => hk.2) (.int .i64 t316)) (fun _ hk => hk.2) (.int .i64 t317)) (fun _ hk => hk.2) (.slice Ao58 t318.length co58)) (fun _ h_ => h_.1)))); (case side2 => exact (Kd.R_reads' HO293.out).2.1); (case side3 => refine (Kd.R_reads' (e := 5) (base := w.heap.size) (ok := fun k_ => (((True ∧ some k_ ≠ (.slice Ao29 t291.length co29 : Value).ownBlock) ∧ some k_ ≠ (.slice Ao47 t309.length co47 : Value).ownBlock) ∧ some k_ ≠ (.slice Ao58 t318.length co58 : Value).ownBlock)) (n := t300.length) (c := co37) ?_).2.2; exact (by (with_reducible repeat (first | apply Kd.R_alloc | apply Kd.R_drewN | apply Kd.R_drew)); exact (Kd.R_mono (Kd.R_far (p := ⟨gb322, 4, none⟩) (Kd.R_far (p := ⟨gb322, 3, none⟩) (Kd.R_far (p := ⟨gb322, 2, none⟩) (Kd.R_far (p := ⟨gb322, 1, none⟩) (Kd.R_far (p := ⟨gb322, 0, none⟩) (Kd.R_types HO302.out BK322.out (by decide)) (fun _ hk => hk.2) (.int .i64 t314)) (fun _ hk => hk.2) (.int .i64 t315)) (fun _ hk => hk.2) (.int .i64 t316)) (fun _ hk => hk.2) (.int .i64 t317)) (fun _ hk => hk.2) (.slice Ao58 t318.length co58)) (fun _ h_ => h_.1)))); (case side4 => exact (Kd.R_reads' HO302.out).2.1); rintro e w73 ⟨rfl, hb⟩; refine ⟨_, rfl, ?_⟩; have n0_ := Aside0.mk (Kd.R_below (by (with_reducible repeat (first | apply Kd.R_alloc | apply Kd.R_drewN | apply Kd.R_drew)); exact (Kd.R_mono (Kd.R_far (p := ⟨gb322, 4, none⟩) (Kd.R_far (p := ⟨gb322, 3, none⟩) (Kd.R_far (p := ⟨gb322, 2, none⟩) (Kd.R_far (p := ⟨gb322, 1, none⟩) (Kd.R_far (p := ⟨gb322, 0, none⟩) (Kd.R_types HO293.out BK322.out (by decide)) (fun _ hk => hk.2) (.int .i64 t314)) (fun _ hk => hk.2) (.int .i64 t315)) (fun _ hk => hk.2) (.int .i64 t316)) (fun _ hk => hk.2) (.int .i64 t317)) (fun _ hk => hk.2) (.slice Ao58 t318.length co58)) (fun _ h_ => h_.1))) hb); have n1_ := Aside0.mk (Kd.R_below (by (with_reducible repeat (first | apply Kd.R_alloc | apply Kd.R_drewN | apply Kd.R_drew)); exact (Kd.R_mono (Kd.R_far (p := ⟨gb322, 4, none⟩) (Kd.R_far (p := ⟨gb322, 3, none⟩) (Kd.R_far (p := ⟨gb322, 2, none⟩) (Kd.R_far (p := ⟨gb322, 1, none⟩) (Kd.R_far (p := ⟨gb322, 0, none⟩) (Kd.R_types HO302.out BK322.out (by decide)) (fun _ hk => hk.2) (.int .i64 t314)) (fun _ hk => hk.2) (.int .i64 t315)) (fun _ hk => hk.2) (.int .i64 t316)) (fun _ hk => hk.2) (.int .i64 t317)) (fun _ hk => hk.2) (.slice Ao58 t318.length co58)) (fun _ h_ => h_.1))) hb); have n2_ := Aside0.mk (Kd.R_below (by (with_reducible repeat (first | apply Kd.R_alloc | apply Kd.R_drewN | apply Kd.R_drew)); exact (Kd.R_mono (Kd.R_far (p := ⟨gb322, 4, none⟩) (Kd.R_far (p := ⟨gb322, 3, none⟩) (Kd.R_far (p := ⟨gb322, 2, none⟩) (Kd.R_far (p := ⟨gb322, 1, none⟩) (Kd.R_far (p := ⟨gb322, 0, none⟩) (Kd.R_types HO311.out BK322.out (by decide)) (fun _ hk => hk.2) (.int .i64 t314)) (fun _ hk => hk.2) (.int .i64 t315)) (fun _ hk => hk.2) (.int .i64 t316)) (fun _ hk => hk.2) (.int .i64 t317)) (fun _ hk => hk.2) (.slice Ao58 t318.length co58)) (fun _ h_ => h_.1))) hb); have n3_ := Aside0.mk (Kd.R_below (by (with_reducible repeat (first | apply Kd.R_alloc | apply Kd.R_drewN | apply Kd.R_drew)); exact (Kd.R_mono (Kd.R_far (p := ⟨gb322, 4, none⟩) (Kd.R_far (p := ⟨gb322, 3, none⟩) (Kd.R_far (p := ⟨gb322, 2, none⟩) (Kd.R_far (p := ⟨gb322, 1, none⟩) (Kd.R_far (p := ⟨gb322, 0, none⟩) (Kd.R_types HO320.out BK322.out (by decide)) (fun _ hk => hk.2) (.int .i64 t314)) (fun _ hk => hk.2) (.int .i64 t315)) (fun _ hk => hk.2) (.int .i64 t316)) (fun _ hk => hk.2) (.int .i64 t317)) (fun _ hk => hk.2) (.slice Ao58 t318.length co58)) (fun _ h_ => h_.1))) hb); have n4_ := Aside0.mk (blk_below (g := gb284) (o := .cells #[.int .i64 a0_0, .int .i64 a0_1, .int .i64 a0_2, .int .i64 a0_3, .slice A0_4 l0_4.length c0_4] 46 (0, 0)) (by (with_reducible repeat (first | refine blk_drewN ?_ _ | refine blk_drew ?_ | refine blk_alloc ?_ _)); refine blk_far ?_ NB284_322.out _; refine blk_far ?_ NB284_322.out _; refine blk_far ?_ NB284_322.out _; refine blk_far ?_ NB284_322.out _; refine blk_far ?_ NB284_322.out _; (with_reducible repeat (first | refine blk_drewN ?_ _ | refine blk_drew ?_ | refine blk_alloc ?_ _)); exact BK284.out) hb); have n5_ := Aside0.mk (blk_below (g := gb285) (o := .cells #[.int .i64 a1_0, .int .i64 a1_1, .int .i64 a1_2, .int .i64 a1_3, .slice A1_4 l1_4.length c1_4] 46 (0, 0)) (by (with_reducible repeat (first | refine blk_drewN ?_ _ | refine blk_drew ?_ | refine blk_alloc ?_ _)); refine blk_far ?_ NB285_322.out _; refine blk_far ?_ NB285_322.out _; refine blk_far ?_ NB285_322.out _; refine blk_far ?_ NB285_322.out _; refine blk_far ?_ NB285_322.out _; (with_reducible repeat (first | refine blk_drewN ?_ _ | refine blk_drew ?_ | refine blk_alloc ?_ _)); exact BK285.out) hb); have n6_ := Aside0.mk (blk_below (g := gb295) (o := .cells #[.int .i64 t287, .int .i64 t288, .int .i64 t289, .int .i64 t290, .slice Ao29 t291.length co29] 46 (0, 0)) (by (with_reducible repeat (first | refine blk_drewN ?_ _ | refine blk_drew ?_ | refine blk_alloc ?_ _)); refine blk_far ?_ NB295_322.out _; refine blk_far ?_ NB295_322.out _; refine blk_far ?_ NB295_322.out _; refine blk_far ?_ NB295_322.out _; refine blk_far ?_ NB295_322.out _; (with_reducible repeat (first | refine blk_drewN ?_ _ | refine blk_drew ?_ | refine blk_alloc ?_ _)); exact BK295.out) hb); have n7_ := Aside0.mk (blk_below (g := gb304) (o := .cells #[.int .i64 t296, .int .i64 t297, .int .i64 t298, .int .i64 t299, .slice Ao37 t300.length co37] 46 (0, 0)) (by (with_reducible repeat (first | refine blk_drewN ?_ _ | refine blk_drew ?_ | refine blk_alloc ?_ _)); refine blk_far ?_ NB304_322.out _; refine blk_far ?_ NB304_322.out _; refine blk_far ?_ NB304_322.out _; refine blk_far ?_ NB304_322.out _; refine blk_far ?_ NB304_322.out _; (with_reducible repeat (first | refine blk_drewN ?_ _ | refine blk_drew ?_ | refine blk_alloc ?_ _)); exact BK304.out) hb); have n8_ := Aside0.mk (blk_below (g := gb313) (o := .cells #[.int .i64 t305, .int .i64 t306, .int .i64 t307, .int .i64 t308, .slice Ao47 t309.length co47] 46 (0, 0)) (by (with_reducible repeat (first | refine blk_drewN ?_ _ | refine blk_drew ?_ | refine blk_alloc ?_ _)); refine blk_far ?_ NB313_322.out _; refine blk_far ?_ NB313_322.out _; refine blk_far ?_ NB313_322.out _; refine blk_far ?_ NB313_322.out _; refine blk_far ?_ NB313_322.out _; (with_reducible repeat (first | refine blk_drewN ?_ _ | refine blk_drew ?_ | refine blk_alloc ?_ _)); exact BK313.out) hb); have n9_ := Aside0.mk (blk_below (g := gb322) (o := .cells #[.int .i64 t314, .int .i64 t315, .int .i64 t316, .int .i64 t317, .slice Ao58 t318.length co58] 46 (0, 0)) (by (with_reducible repeat (first | refine blk_drewN ?_ _ | refine blk_drew ?_ | refine blk_alloc ?_ _)); refine blk_put (cs := #[.int .i64 t314, .int .i64 t315, .int .i64 t316, .int .i64 t317, .slice none 0 0]) ?_ 4 _ rfl; refine blk_put (cs := #[.int .i64 t314, .int .i64 t315, .int .i64 t316, .int .i64 0, .slice none 0 0]) ?_ 3 _ rfl; refine blk_put (cs := #[.int .i64 t314, .int .i64 t315, .int .i64 0, .int .i64 0, .slice none 0 0]) ?_ 2 _ rfl; refine blk_put (cs := #[.int .i64 t314, .int .i64 0, .int .i64 0, .int .i64 0, .slice none 0 0]) ?_ 1 _ rfl; refine blk_put (cs := #[.int .i64 0, .int .i64 0, .int .i64 0, .int .i64 0, .slice none 0 0]) ?_ 0 _ rfl; (with_reducible repeat (first | refine blk_drewN ?_ _ | refine blk_drew ?_ | refine blk_alloc ?_ _)); exact BK322.out) hb); have n10_ := Cz.bs (w := w) hb; clear HO293; clear HO302; clear HO311; clear HO320; clear BK284; clear BK285; clear BK295; clear BK304; clear BK313; clear BK322; clear HB; have HO293 := n0_; have HO302 := n1_; have HO311 := n2_; have HO320 := n3_; have BK284 := n4_; have BK285 := n5_; have BK295 := n6_; have BK304 := n7_; have BK313 := n8_; have BK322 := n9_; have HB := n10_; clear n0_ n1_ n2_ n3_ n4_ n5_ n6_ n7_ n8_ n9_ n10_; (try clear hb); (try clear hb2); (try clear hk); (try clear hi); have hnb74 := NB313_284.out; have hnc74 := NB284_313.out; have hnb75 := NB313_285.out; have hnc75 := NB285_313.out; have hnb76 := NB313_322.out; have hnc76 := NB322_313.out; obtain ⟨hcz77_0, hcz77_1, hcz77_2, hcz77_3, hcz77_4, hfz77_0, hfz77_1, hfz77_2, hfz77_3, hfz77_4⟩ := Cz.d5 BK313; have hnb78 := NB322_284.out; have hnc78 := NB284_322.out; have hnb79 := NB322_285.out; have hnc79 := NB285_322.out; obtain ⟨hcz80_0, hcz80_1, hcz80_2, hcz80_3, hcz80_4, hfz80_0, hfz80_1, hfz80_2, hfz80_3, hfz80_4⟩ := Cz.d5 BK322) | (go_at_call 37; (with_reducible refine (waggonerref07_Same.calls t305 t306 t307 t308 _ _ t309 t314 t315 t316 t317 _ _ t318 t324 _ ?side1 ?side2 ?side3 ?side4 A61.out).mono ?_); (case side1 => repeat (first | exact (Kd.R_reads' HO311.out).2.2 | (with_reducible refine Kd.C_alloc ?_ _) | (with_reducible refine Kd.C_drewN ?_ _) | (with_reducible refine Kd.C_drew ?_))); (case side2 => exact (Kd.R_reads' HO311.out).2.1); (case side3 => repeat (first | exact (Kd.R_reads' HO320.out).2.2 | (with_reducible refine Kd.C_alloc ?_ _) | (with_reducible refine Kd.C_drewN ?_ _) | (with_reducible refine Kd.C_drew ?_))); (case side4 => exact (Kd.R_reads' HO320.out).2.1); rintro e w81 ⟨rfl, hb⟩; have n0_ := Cz.rb HO293 hb; have n1_ := Cz.rb HO302 hb; have n2_ := Cz.rb HO311 hb; have n3_ := Cz.rb HO320 hb; have n4_ := Cz.bk BK284 hb; have n5_ := Cz.bk BK285 hb; have n6_ := Cz.bk BK295 hb; have n7_ := Cz.bk BK304 hb; have n8_ := Cz.bk BK313 hb; have n9_ := Cz.bk BK322 hb; have n10_ := Cz.bs (w := w) hb; clear HO293; clear HO302; clear HO311; clear HO320; clear BK284; clear BK285; clear BK295; clear BK304; clear BK313; clear BK322; clear HB; have HO293 := n0_; have HO302 := n1_; have HO311 := n2_; have HO320 := n3_; have BK284 := n4_; have BK285 := n5_; have BK295 := n6_; have BK304 := n7_; have BK313 := n8_; have BK322 := n9_; have HB := n10_; clear n0_ n1_ n2_ n3_ n4_ n5_ n6_ n7_ n8_ n9_ n10_; (try clear hb); (try clear hb2); (try clear hk); (try clear hi)))
      go_meet
      case rel => exact ⟨_, (t324), (by first | rfl | (simp; done) | (simp [*]; done)), H', ⟨by have := HJ5.out; first | omega | exact Nat.le_refl _⟩, ⟨by (with_reducible repeat (first | apply Kd.R_alloc | apply Kd.R_drewN | apply Kd.R_drew)); exact Kd.R_mono HO293.out (fun _ hk => ⟨hk.1.1.2, ⟨hk.1.2, hk.2⟩⟩)⟩, ⟨by (with_reducible repeat (first | apply Kd.R_alloc | apply Kd.R_drewN | apply Kd.R_drew)); exact Kd.R_mono HO302.out (fun _ hk => ⟨hk.1.1.2, ⟨hk.1.2, hk.2⟩⟩)⟩, ⟨by (with_reducible repeat (first | apply Kd.R_alloc | apply Kd.R_drewN | apply Kd.R_drew)); exact Kd.R_mono HO311.out (fun _ hk => ⟨hk.1.1.2, ⟨hk.1.2, hk.2⟩⟩)⟩, ⟨by (with_reducible repeat (first | apply Kd.R_alloc | apply Kd.R_drewN | apply Kd.R_drew)); exact Kd.R_mono HO320.out (fun _ hk => ⟨hk.1.1.2, ⟨hk.1.2, hk.2⟩⟩)⟩, ⟨by (with_reducible repeat (first | refine blk_drewN ?_ _ | refine blk_drew ?_ | refine blk_alloc ?_ _)); exact BK284.out⟩, ⟨by (with_reducible repeat (first | refine blk_drewN ?_ _ | refine blk_drew ?_ | refine blk_alloc ?_ _)); exact BK285.out⟩, ⟨by (with_reducible repeat (first | refine blk_drewN ?_ _ | refine blk_drew ?_ | refine blk_alloc ?_ _)); exact BK295.out⟩, ⟨by (with_reducible repeat (first | refine blk_drewN ?_ _ | refine blk_drew ?_ | refine blk_alloc ?_ _)); exact BK304.out⟩, ⟨by (with_reducible repeat (first | refine blk_drewN ?_ _ | refine blk_drew ?_ | refine blk_alloc ?_ _)); exact BK313.out⟩, ⟨by (with_reducible repeat (first | refine blk_drewN ?_ _ | refine blk_drew ?_ | refine blk_alloc ?_ _)); exact BK322.out⟩, ⟨by repeat (first | (with_reducible first | exact HB.out | apply below_alloc | apply pw_below_drewN | apply below_drew1 | refine below_set ?_ GE284.out | refine below_set ?_ GE285.out | refine below_set ?_ GE295.out | refine below_set ?_ GE304.out | refine below_set ?_ GE313.out | refine below_set ?_ GE322.out) | exact HB.out)⟩⟩
     ·replace c60 := Bool.eq_false_iff.mpr c60
      subst c60
      rw [if_neg (show ¬ (false = true) by decide)] at H
      have H' := Aside0.mk H
      clear H
      have hnb82 := NB295_284.out
      have hnc82 := NB284_295.out
      have hnb83 := NB295_285.out
      have hnc83 := NB285_295.out
      have hnb84 := NB295_304.out
      have hnc84 := NB304_295.out
      have hnb85 := NB295_313.out
      have hnc85 := NB313_295.out
      have hnb86 := NB295_322.out
      have hnc86 := NB322_295.out
      obtain ⟨hcz87_0, hcz87_1, hcz87_2, hcz87_3, hcz87_4, hfz87_0, hfz87_1, hfz87_2, hfz87_3, hfz87_4⟩ := Cz.d5 BK295
      have hnb88 := NB304_284.out
      have hnc88 := NB284_304.out
      have hnb89 := NB304_285.out
      have hnc89 := NB285_304.out
      have hnb90 := NB304_313.out
      have hnc90 := NB313_304.out
      have hnb91 := NB304_322.out
      have hnc91 := NB322_304.out
      obtain ⟨hcz92_0, hcz92_1, hcz92_2, hcz92_3, hcz92_4, hfz92_0, hfz92_1, hfz92_2, hfz92_3, hfz92_4⟩ := Cz.d5 BK304
      go_wp2_with (first | ((with_reducible refine gate_callee (f := 37) rfl ?_); refine Cz.gL (N := (some 59)) Try.func37 #[.agg #[.int .i64 t287, .int .i64 t288, .int .i64 t289, .int .i64 t290, .slice Ao29 t291.length co29], .agg #[.int .i64 t296, .int .i64 t297, .int .i64 t298, .int .i64 t299, .slice Ao37 t300.length co37]] ?_; (with_reducible refine (waggonerref07_Same.calls t287 t288 t289 t290 _ _ t291 t296 t297 t298 t299 _ _ t300 false _ ?side1 ?side2 ?side3 ?side4 A59.out).mono ?_); (case side1 => refine (Kd.R_reads' (e := 5) (base := w.heap.size) (ok := fun k_ => (((True ∧ some k_ ≠ (.slice Ao37 t300.length co37 : Value).ownBlock) ∧ some k_ ≠ (.slice Ao47 t309.length co47 : Value).ownBlock) ∧ some k_ ≠ (.slice Ao58 t318.length co58 : Value).ownBlock)) (n := t291.length) (c := co29) ?_).2.2; exact (by (with_reducible repeat (first | apply Kd.R_alloc | apply Kd.R_drewN | apply Kd.R_drew)); exact (Kd.R_mono (Kd.R_far (p := ⟨gb322, 4, none⟩) (Kd.R_far (p := ⟨gb322, 3, none⟩) (Kd.R_far (p := ⟨gb322, 2, none⟩) (Kd.R_far (p := ⟨gb322, 1, none⟩) (Kd.R_far (p := ⟨gb322, 0, none⟩) (Kd.R_types HO293.out BK322.out (by decide)) (fun _ hk => hk.2) (.int .i64 t314)) (fun _ hk => hk.2) (.int .i64 t315)) (fun _ hk => hk.2) (.int .i64 t316)) (fun _ hk => hk.2) (.int .i64 t317)) (fun _ hk => hk.2) (.slice Ao58 t318.length co58)) (fun _ h_ => h_.1)))); (case side2 => exact (Kd.R_reads' HO293.out).2.1); (case side3 => refine (Kd.R_reads' (e := 5) (base := w.heap.size) (ok := fun k_ => (((True ∧ some k_ ≠ (.slice Ao29 t291.length co29 : Value).ownBlock) ∧ some k_ ≠ (.slice Ao47 t309.length co47 : Value).ownBlock) ∧ some k_ ≠ (.slice Ao58 t318.length co58 : Value).ownBlock)) (n := t300.length) (c := co37) ?_).2.2; exact (by (with_reducible repeat (first | apply Kd.R_alloc | apply Kd.R_drewN | apply Kd.R_drew)); exact (Kd.R_mono (Kd.R_far (p := ⟨gb322, 4, none⟩) (Kd.R_far (p := ⟨gb322, 3, none⟩) (Kd.R_far (p := ⟨gb322, 2, none⟩) (Kd.R_far (p := ⟨gb322, 1, none⟩) (Kd.R_far (p := ⟨gb322, 0, none⟩) (Kd.R_types HO302.out BK322.out (by decide)) (fun _ hk => hk.2) (.int .i64 t314)) (fun _ hk => hk.2) (.int .i64 t315)) (fun _ hk => hk.2) (.int .i64 t316)) (fun _ hk => hk.2) (.int .i64 t317)) (fun _ hk => hk.2) (.slice Ao58 t318.length co58)) (fun _ h_ => h_.1)))); (case side4 => exact (Kd.R_reads' HO302.out).2.1); rintro e w93 ⟨rfl, hb⟩; refine ⟨_, rfl, ?_⟩; have n0_ := Aside0.mk (Kd.R_below (by (with_reducible repeat (first | apply Kd.R_alloc | apply Kd.R_drewN | apply Kd.R_drew)); exact (Kd.R_mono (Kd.R_far (p := ⟨gb322, 4, none⟩) (Kd.R_far (p := ⟨gb322, 3, none⟩) (Kd.R_far (p := ⟨gb322, 2, none⟩) (Kd.R_far (p := ⟨gb322, 1, none⟩) (Kd.R_far (p := ⟨gb322, 0, none⟩) (Kd.R_types HO293.out BK322.out (by decide)) (fun _ hk => hk.2) (.int .i64 t314)) (fun _ hk => hk.2) (.int .i64 t315)) (fun _ hk => hk.2) (.int .i64 t316)) (fun _ hk => hk.2) (.int .i64 t317)) (fun _ hk => hk.2) (.slice Ao58 t318.length co58)) (fun _ h_ => h_.1))) hb); have n1_ := Aside0.mk (Kd.R_below (by (with_reducible repeat (first | apply Kd.R_alloc | apply Kd.R_drewN | apply Kd.R_drew)); exact (Kd.R_mono (Kd.R_far (p := ⟨gb322, 4, none⟩) (Kd.R_far (p := ⟨gb322, 3, none⟩) (Kd.R_far (p := ⟨gb322, 2, none⟩) (Kd.R_far (p := ⟨gb322, 1, none⟩) (Kd.R_far (p := ⟨gb322, 0, none⟩) (Kd.R_types HO302.out BK322.out (by decide)) (fun _ hk => hk.2) (.int .i64 t314)) (fun _ hk => hk.2) (.int .i64 t315)) (fun _ hk => hk.2) (.int .i64 t316)) (fun _ hk => hk.2) (.int .i64 t317)) (fun _ hk => hk.2) (.slice Ao58 t318.length co58)) (fun _ h_ => h_.1))) hb); have n2_ := Aside0.mk (Kd.R_below (by (with_reducible repeat (first | apply Kd.R_alloc | apply Kd.R_drewN | apply Kd.R_drew)); exact (Kd.R_mono (Kd.R_far (p := ⟨gb322, 4, none⟩) (Kd.R_far (p := ⟨gb322, 3, none⟩) (Kd.R_far (p := ⟨gb322, 2, none⟩) (Kd.R_far (p := ⟨gb322, 1, none⟩) (Kd.R_far (p := ⟨gb322, 0, none⟩) (Kd.R_types HO311.out BK322.out (by decide)) (fun _ hk => hk.2) (.int .i64 t314)) (fun _ hk => hk.2) (.int .i64 t315)) (fun _ hk => hk.2) (.int .i64 t316)) (fun _ hk => hk.2) (.int .i64 t317)) (fun _ hk => hk.2) (.slice Ao58 t318.length co58)) (fun _ h_ => h_.1))) hb); have n3_ := Aside0.mk (Kd.R_below (by (with_reducible repeat (first | apply Kd.R_alloc | apply Kd.R_drewN | apply Kd.R_drew)); exact (Kd.R_mono (Kd.R_far (p := ⟨gb322, 4, none⟩) (Kd.R_far (p := ⟨gb322, 3, none⟩) (Kd.R_far (p := ⟨gb322, 2, none⟩) (Kd.R_far (p := ⟨gb322, 1, none⟩) (Kd.R_far (p := ⟨gb322, 0, none⟩) (Kd.R_types HO320.out BK322.out (by decide)) (fun _ hk => hk.2) (.int .i64 t314)) (fun _ hk => hk.2) (.int .i64 t315)) (fun _ hk => hk.2) (.int .i64 t316)) (fun _ hk => hk.2) (.int .i64 t317)) (fun _ hk => hk.2) (.slice Ao58 t318.length co58)) (fun _ h_ => h_.1))) hb); have n4_ := Aside0.mk (blk_below (g := gb284) (o := .cells #[.int .i64 a0_0, .int .i64 a0_1, .int .i64 a0_2, .int .i64 a0_3, .slice A0_4 l0_4.length c0_4] 46 (0, 0)) (by (with_reducible repeat (first | refine blk_drewN ?_ _ | refine blk_drew ?_ | refine blk_alloc ?_ _)); refine blk_far ?_ NB284_322.out _; refine blk_far ?_ NB284_322.out _; refine blk_far ?_ NB284_322.out _; refine blk_far ?_ NB284_322.out _; refine blk_far ?_ NB284_322.out _; (with_reducible repeat (first | refine blk_drewN ?_ _ | refine blk_drew ?_ | refine blk_alloc ?_ _)); exact BK284.out) hb); have n5_ := Aside0.mk (blk_below (g := gb285) (o := .cells #[.int .i64 a1_0, .int .i64 a1_1, .int .i64 a1_2, .int .i64 a1_3, .slice A1_4 l1_4.length c1_4] 46 (0, 0)) (by (with_reducible repeat (first | refine blk_drewN ?_ _ | refine blk_drew ?_ | refine blk_alloc ?_ _)); refine blk_far ?_ NB285_322.out _; refine blk_far ?_ NB285_322.out _; refine blk_far ?_ NB285_322.out _; refine blk_far ?_ NB285_322.out _; refine blk_far ?_ NB285_322.out _; (with_reducible repeat (first | refine blk_drewN ?_ _ | refine blk_drew ?_ | refine blk_alloc ?_ _)); exact BK285.out) hb); have n6_ := Aside0.mk (blk_below (g := gb295) (o := .cells #[.int .i64 t287, .int .i64 t288, .int .i64 t289, .int .i64 t290, .slice Ao29 t291.length co29] 46 (0, 0)) (by (with_reducible repeat (first | refine blk_drewN ?_ _ | refine blk_drew ?_ | refine blk_alloc ?_ _)); refine blk_far ?_ NB295_322.out _; refine blk_far ?_ NB295_322.out _; refine blk_far ?_ NB295_322.out _; refine blk_far ?_ NB295_322.out _; refine blk_far ?_ NB295_322.out _; (with_reducible repeat (first | refine blk_drewN ?_ _ | refine blk_drew ?_ | refine blk_alloc ?_ _)); exact BK295.out) hb); have n7_ := Aside0.mk (blk_below (g := gb304) (o := .cells #[.int .i64 t296, .int .i64 t297, .int .i64 t298, .int .i64 t299, .slice Ao37 t300.length co37] 46 (0, 0)) (by (with_reducible repeat (first | refine blk_drewN ?_ _ | refine blk_drew ?_ | refine blk_alloc ?_ _)); refine blk_far ?_ NB304_322.out _; refine blk_far ?_ NB304_322.out _; refine blk_far ?_ NB304_322.out _; refine blk_far ?_ NB304_322.out _; refine blk_far ?_ NB304_322.out _; (with_reducible repeat (first | refine blk_drewN ?_ _ | refine blk_drew ?_ | refine blk_alloc ?_ _)); exact BK304.out) hb); have n8_ := Aside0.mk (blk_below (g := gb313) (o := .cells #[.int .i64 t305, .int .i64 t306, .int .i64 t307, .int .i64 t308, .slice Ao47 t309.length co47] 46 (0, 0)) (by (with_reducible repeat (first | refine blk_drewN ?_ _ | refine blk_drew ?_ | refine blk_alloc ?_ _)); refine blk_far ?_ NB313_322.out _; refine blk_far ?_ NB313_322.out _; refine blk_far ?_ NB313_322.out _; refine blk_far ?_ NB313_322.out _; refine blk_far ?_ NB313_322.out _; (with_reducible repeat (first | refine blk_drewN ?_ _ | refine blk_drew ?_ | refine blk_alloc ?_ _)); exact BK313.out) hb); have n9_ := Aside0.mk (blk_below (g := gb322) (o := .cells #[.int .i64 t314, .int .i64 t315, .int .i64 t316, .int .i64 t317, .slice Ao58 t318.length co58] 46 (0, 0)) (by (with_reducible repeat (first | refine blk_drewN ?_ _ | refine blk_drew ?_ | refine blk_alloc ?_ _)); refine blk_put (cs := #[.int .i64 t314, .int .i64 t315, .int .i64 t316, .int .i64 t317, .slice none 0 0]) ?_ 4 _ rfl; refine blk_put (cs := #[.int .i64 t314, .int .i64 t315, .int .i64 t316, .int .i64 0, .slice none 0 0]) ?_ 3 _ rfl; refine blk_put (cs := #[.int .i64 t314, .int .i64 t315, .int .i64 0, .int .i64 0, .slice none 0 0]) ?_ 2 _ rfl; refine blk_put (cs := #[.int .i64 t314, .int .i64 0, .int .i64 0, .int .i64 0, .slice none 0 0]) ?_ 1 _ rfl; refine blk_put (cs := #[.int .i64 0, .int .i64 0, .int .i64 0, .int .i64 0, .slice none 0 0]) ?_ 0 _ rfl; (with_reducible repeat (first | refine blk_drewN ?_ _ | refine blk_drew ?_ | refine blk_alloc ?_ _)); exact BK322.out) hb); have n10_ := Cz.bs (w := w) hb; clear HO293; clear HO302; clear HO311; clear HO320; clear BK284; clear BK285; clear BK295; clear BK304; clear BK313; clear BK322; clear HB; have HO293 := n0_; have HO302 := n1_; have HO311 := n2_; have HO320 := n3_; have BK284 := n4_; have BK285 := n5_; have BK295 := n6_; have BK304 := n7_; have BK313 := n8_; have BK322 := n9_; have HB := n10_; clear n0_ n1_ n2_ n3_ n4_ n5_ n6_ n7_ n8_ n9_ n10_; (try clear hb); (try clear hb2); (try clear hk); (try clear hi)))
      go_meet
      case rel => exact ⟨_, (false), (by first | rfl | (simp; done) | (simp [*]; done)), H', ⟨by have := HJ5.out; first | omega | exact Nat.le_refl _⟩, ⟨by (with_reducible repeat (first | apply Kd.R_alloc | apply Kd.R_drewN | apply Kd.R_drew)); exact Kd.R_mono HO293.out (fun _ hk => ⟨hk.1.1.2, ⟨hk.1.2, hk.2⟩⟩)⟩, ⟨by (with_reducible repeat (first | apply Kd.R_alloc | apply Kd.R_drewN | apply Kd.R_drew)); exact Kd.R_mono HO302.out (fun _ hk => ⟨hk.1.1.2, ⟨hk.1.2, hk.2⟩⟩)⟩, ⟨by (with_reducible repeat (first | apply Kd.R_alloc | apply Kd.R_drewN | apply Kd.R_drew)); exact Kd.R_mono HO311.out (fun _ hk => ⟨hk.1.1.2, ⟨hk.1.2, hk.2⟩⟩)⟩, ⟨by (with_reducible repeat (first | apply Kd.R_alloc | apply Kd.R_drewN | apply Kd.R_drew)); exact Kd.R_mono HO320.out (fun _ hk => ⟨hk.1.1.2, ⟨hk.1.2, hk.2⟩⟩)⟩, ⟨by (with_reducible repeat (first | refine blk_drewN ?_ _ | refine blk_drew ?_ | refine blk_alloc ?_ _)); exact BK284.out⟩, ⟨by (with_reducible repeat (first | refine blk_drewN ?_ _ | refine blk_drew ?_ | refine blk_alloc ?_ _)); exact BK285.out⟩, ⟨by (with_reducible repeat (first | refine blk_drewN ?_ _ | refine blk_drew ?_ | refine blk_alloc ?_ _)); exact BK295.out⟩, ⟨by (with_reducible repeat (first | refine blk_drewN ?_ _ | refine blk_drew ?_ | refine blk_alloc ?_ _)); exact BK304.out⟩, ⟨by (with_reducible repeat (first | refine blk_drewN ?_ _ | refine blk_drew ?_ | refine blk_alloc ?_ _)); exact BK313.out⟩, ⟨by (with_reducible repeat (first | refine blk_drewN ?_ _ | refine blk_drew ?_ | refine blk_alloc ?_ _)); exact BK322.out⟩, ⟨by repeat (first | (with_reducible first | exact HB.out | apply below_alloc | apply pw_below_drewN | apply below_drew1 | refine below_set ?_ GE284.out | refine below_set ?_ GE285.out | refine below_set ?_ GE295.out | refine below_set ?_ GE304.out | refine below_set ?_ GE313.out | refine below_set ?_ GE322.out) | exact HB.out)⟩⟩
    case rest =>
     clear HC21
     try clear c1
     try clear c2
     try clear p2
     try clear c3
     try clear c4
     try clear c5
     try clear c6
     try clear c7
     try clear c8
     try clear c9
     try clear c10
     try clear c10b0
     try clear c10b1
     try clear c11
     try clear c13
     try clear c16
     try clear c22
     try clear c26
     try clear c27
     try clear c32
     try clear c33
     try clear c34
     try clear c35
     try clear c36
     try clear c37
     try clear c42
     try clear c43
     try clear c44
     try clear c45
     try clear c52
     try clear c53
     try clear c54
     try clear c55
     try clear c56
     try clear c60
     try clear c62
     try clear c63
     try clear c64
     try clear c65
     try clear c66
     try clear c68
     try clear c69
     try clear c70
     try clear c71
     try clear c74
     try clear c75
     try clear c76
     try clear c78
     try clear c79
     try clear c82
     try clear c83
     try clear c84
     try clear c85
     try clear c86
     try clear c88
     try clear c89
     try clear c90
     try clear c91
     try clear hcz12_0
     try clear hcz12_1
     try clear hcz12_2
     try clear hcz12_3
     try clear hcz12_4
     try clear hcz14_0
     try clear hcz14_1
     try clear hcz14_2
     try clear hcz14_3
     try clear hcz14_4
     try clear hcz15_0
     try clear hcz15_1
     try clear hcz15_2
     try clear hcz15_3
     try clear hcz15_4
     try clear hcz23_0
     try clear hcz23_1
     try clear hcz23_2
     try clear hcz23_3
     try clear hcz23_4
     try clear hcz28_0
     try clear hcz28_1
     try clear hcz28_2
     try clear hcz28_3
     try clear hcz28_4
     try clear hcz30_0
     try clear hcz30_1
     try clear hcz30_2
     try clear hcz30_3
     try clear hcz30_4
     try clear hcz36_0
     try clear hcz36_1
     try clear hcz36_2
     try clear hcz36_3
     try clear hcz36_4
     try clear hcz38_0
     try clear hcz38_1
     try clear hcz38_2
     try clear hcz38_3
     try clear hcz38_4
     try clear hcz39_0
     try clear hcz39_1
     try clear hcz39_2
     try clear hcz39_3
     try clear hcz39_4
     try clear hcz46_0
     try clear hcz46_1
     try clear hcz46_2
     try clear hcz46_3
     try clear hcz46_4
     try clear hcz48_0
     try clear hcz48_1
     try clear hcz48_2
     try clear hcz48_3
     try clear hcz48_4
     try clear hcz49_0
     try clear hcz49_1
     try clear hcz49_2
     try clear hcz49_3
     try clear hcz49_4
     try clear hcz57_0
     try clear hcz57_1
     try clear hcz57_2
     try clear hcz57_3
     try clear hcz57_4
     try clear hcz67_0
     try clear hcz67_1
     try clear hcz67_2
     try clear hcz67_3
     try clear hcz67_4
     try clear hcz72_0
     try clear hcz72_1
     try clear hcz72_2
     try clear hcz72_3
     try clear hcz72_4
     try clear hcz77_0
     try clear hcz77_1
     try clear hcz77_2
     try clear hcz77_3
     try clear hcz77_4
     try clear hcz80_0
     try clear hcz80_1
     try clear hcz80_2
     try clear hcz80_3
     try clear hcz80_4
     try clear hcz87_0
     try clear hcz87_1
     try clear hcz87_2
     try clear hcz87_3
     try clear hcz87_4
     try clear hcz92_0
     try clear hcz92_1
     try clear hcz92_2
     try clear hcz92_3
     try clear hcz92_4
     try clear hfz12_0
     try clear hfz12_1
     try clear hfz12_2
     try clear hfz12_3
     try clear hfz12_4
     try clear hfz14_0
     try clear hfz14_1
     try clear hfz14_2
     try clear hfz14_3
     try clear hfz14_4
     try clear hfz15_0
     try clear hfz15_1
     try clear hfz15_2
     try clear hfz15_3
     try clear hfz15_4
     try clear hfz23_0
     try clear hfz23_1
     try clear hfz23_2
     try clear hfz23_3
     try clear hfz23_4
     try clear hfz28_0
     try clear hfz28_1
     try clear hfz28_2
     try clear hfz28_3
     try clear hfz28_4
     try clear hfz30_0
     try clear hfz30_1
     try clear hfz30_2
     try clear hfz30_3
     try clear hfz30_4
     try clear hfz36_0
     try clear hfz36_1
     try clear hfz36_2
     try clear hfz36_3
     try clear hfz36_4
     try clear hfz38_0
     try clear hfz38_1
     try clear hfz38_2
     try clear hfz38_3
     try clear hfz38_4
     try clear hfz39_0
     try clear hfz39_1
     try clear hfz39_2
     try clear hfz39_3
     try clear hfz39_4
     try clear hfz46_0
     try clear hfz46_1
     try clear hfz46_2
     try clear hfz46_3
     try clear hfz46_4
     try clear hfz48_0
     try clear hfz48_1
     try clear hfz48_2
     try clear hfz48_3
     try clear hfz48_4
     try clear hfz49_0
     try clear hfz49_1
     try clear hfz49_2
     try clear hfz49_3
     try clear hfz49_4
     try clear hfz57_0
     try clear hfz57_1
     try clear hfz57_2
     try clear hfz57_3
     try clear hfz57_4
     try clear hfz67_0
     try clear hfz67_1
     try clear hfz67_2
     try clear hfz67_3
     try clear hfz67_4
     try clear hfz72_0
     try clear hfz72_1
     try clear hfz72_2
     try clear hfz72_3
     try clear hfz72_4
     try clear hfz77_0
     try clear hfz77_1
     try clear hfz77_2
     try clear hfz77_3
     try clear hfz77_4
     try clear hfz80_0
     try clear hfz80_1
     try clear hfz80_2
     try clear hfz80_3
     try clear hfz80_4
     try clear hfz87_0
     try clear hfz87_1
     try clear hfz87_2
     try clear hfz87_3
     try clear hfz87_4
     try clear hfz92_0
     try clear hfz92_1
     try clear hfz92_2
     try clear hfz92_3
     try clear hfz92_4
     try clear p2
     obtain ⟨kq, x18_20, rfl, HA, HJ20, HO_296004, HO_305004, HO_314004, HO_323004, BK284, BK285, BK295, BK304, BK313, BK322, HB⟩ := hcut
     cases kq with
     | zero => exact absurd HA.out (by simp [waggonerlaw07_ExtentTells.j1])
     | succ kj20 =>
      have H := HA.out
      clear HA
      simp only [waggonerlaw07_ExtentTells.j1] at H
      by_cases c94 : t286 = true
      ·subst c94
       rw [if_pos rfl] at H
       replace H := Option.bind_eq_some_iff.mp H
       obtain ⟨t325, A950, H⟩ := H
       (try dsimp only at H)
       have A95 := Aside0.mk A950
       clear A950
       replace H := Option.bind_eq_some_iff.mp H
       obtain ⟨t326, A960, H⟩ := H
       (try dsimp only at H)
       have A96 := Aside0.mk A960
       clear A960
       by_cases c97 : (t325 == t326) = true
       ·rw [if_pos c97] at H
        have c97b0 : (t325 == t326) = true := c97
        (try (have c97b1 : decide (t325 = t326) = true := by simpa using c97))
        (try (have c97b2 : (t325 == t326) = true := by simpa using c97))
        clear c97
        replace H := Option.bind_eq_some_iff.mp H
        obtain ⟨t327, A980, H⟩ := H
        (try dsimp only at H)
        have A98 := Aside0.mk A980
        clear A980
        replace H := Option.bind_eq_some_iff.mp H
        obtain ⟨t330, A990, H⟩ := H
        (try dsimp only at H)
        have A99 := Aside0.mk A990
        clear A990
        by_cases c100 : (strOfNums t327).toList = (strOfNums t330).toList
        ·rw [if_pos c100] at H
         have c100b0 : ((strOfNums t327).toList == (strOfNums t330).toList) = true := beq_iff_eq.mpr c100
         have c100b1 : ((strOfNums t327).toList != (strOfNums t330).toList) = false := bne_eq_false_iff_eq.mpr c100
         clear c100
         by_cases c101 : x18_20 = true
         ·subst c101
          rw [if_pos rfl] at H
          by_cases c102 : (t294 == t303) = true
          ·rw [if_pos c102] at H
           have c102b0 : (t294 == t303) = true := c102
           (try (have c102b1 : decide (t294 = t303) = true := by simpa using c102))
           (try (have c102b2 : (t294 == t303) = true := by simpa using c102))
           clear c102
           replace H := Option.bind_eq_some_iff.mp H
           obtain ⟨t333, A1030, H⟩ := H
           (try dsimp only at H)
           have A103 := Aside0.mk A1030
           clear A1030
           replace H := Option.bind_eq_some_iff.mp H
           obtain ⟨t334, A1040, H⟩ := H
           (try dsimp only at H)
           have A104 := Aside0.mk A1040
           clear A1040
           by_cases c105 : (t333 == t334) = true
           ·rw [if_pos c105] at H
            have c105b0 : (t333 == t334) = true := c105
            (try (have c105b1 : decide (t333 = t334) = true := by simpa using c105))
            (try (have c105b2 : (t333 == t334) = true := by simpa using c105))
            clear c105
            (have HRT := Aside0.mk (Option.some.inj H); clear H)
            try go_wp2
            have n0_ := Aside0.mk (Kd.R_drew HO_296004.out)
            have n1_ := Aside0.mk (Kd.R_drew HO_305004.out)
            have n2_ := Aside0.mk (Kd.R_drew HO_314004.out)
            have n3_ := Aside0.mk (Kd.R_drew HO_323004.out)
            have n4_ := Aside0.mk (blk_drew BK284.out)
            have n5_ := Aside0.mk (blk_drew BK285.out)
            have n6_ := Aside0.mk (blk_drew BK295.out)
            have n7_ := Aside0.mk (blk_drew BK304.out)
            have n8_ := Aside0.mk (blk_drew BK313.out)
            have n9_ := Aside0.mk (blk_drew BK322.out)
            have n10_ := Aside0.mk (below_drew1 HB.out)
            clear HO_296004
            clear HO_305004
            clear HO_314004
            clear HO_323004
            clear BK284
            clear BK285
            clear BK295
            clear BK304
            clear BK313
            clear BK322
            clear HB
            have HO_296004 := n0_
            have HO_305004 := n1_
            have HO_314004 := n2_
            have HO_323004 := n3_
            have BK284 := n4_
            have BK285 := n5_
            have BK295 := n6_
            have BK304 := n7_
            have BK313 := n8_
            have BK322 := n9_
            have HB := n10_
            clear n0_ n1_ n2_ n3_ n4_ n5_ n6_ n7_ n8_ n9_ n10_
            refine start_ (n := 40) (S := fun w' => w'.cell? ⟨gb284, 0, none⟩ = some (.int .i64 a0_0) ∧ w'.cell? ⟨gb284, 1, none⟩ = some (.int .i64 a0_1) ∧ w'.cell? ⟨gb284, 2, none⟩ = some (.int .i64 a0_2) ∧ w'.cell? ⟨gb284, 3, none⟩ = some (.int .i64 a0_3) ∧ w'.cell? ⟨gb284, 4, none⟩ = some (.slice A0_4 l0_4.length c0_4) ∧ w'.cell? ⟨gb285, 0, none⟩ = some (.int .i64 a1_0) ∧ w'.cell? ⟨gb285, 1, none⟩ = some (.int .i64 a1_1) ∧ w'.cell? ⟨gb285, 2, none⟩ = some (.int .i64 a1_2) ∧ w'.cell? ⟨gb285, 3, none⟩ = some (.int .i64 a1_3) ∧ w'.cell? ⟨gb285, 4, none⟩ = some (.slice A1_4 l1_4.length c1_4)) (ds := []) #[false, false, false, false, false, false, false, false, false, false, false, false, false, false, false, false, false, false, false, false, false, false, false, false, false, false, false, false, false, false, false, false, false, false, false, false, false, false, false, false] (by kernel_rfl) rfl rfl ⟨(blk_cell BK284.out 0).trans rfl, (blk_cell BK284.out 1).trans rfl, (blk_cell BK284.out 2).trans rfl, (blk_cell BK284.out 3).trans rfl, (blk_cell BK284.out 4).trans rfl, (blk_cell BK285.out 0).trans rfl, (blk_cell BK285.out 1).trans rfl, (blk_cell BK285.out 2).trans rfl, (blk_cell BK285.out 3).trans rfl, (blk_cell BK285.out 4).trans rfl⟩ (fun hHeld => ?_); refine with_tabW waggonerlaw07_ExtentTells.tab9 waggonerlaw07_ExtentTells.bits9 (fun HT_ HW_ => ?_)
            generalize wc.drew = w106 at HO_296004 HO_305004 HO_314004 HO_323004 BK284 BK285 BK295 BK304 BK313 BK322 HB hHeld ⊢
            refine Cz.qP 0 65 HT_ ?_
            refine Cz.qP 1 66 HT_ ?_
            refine Cz.qT 2 67 HT_ HW_ hHeld ?_
            refine Cz.qT 4 69 HT_ HW_ hHeld ?_
            refine Cz.qO (N := some 68) 3 HT_ (fun K hK => ?_)
            refine Cz.gO Try.func38 #[.agg #[.int .i64 a0_0, .int .i64 a0_1, .int .i64 a0_2, .int .i64 a0_3, .slice A0_4 l0_4.length c0_4]] ?_
            with_reducible refine (extent_Check.calls a0_0 a0_1 a0_2 a0_3 _ _ l0_4 t325 _ ?side1 ?side2 A95.out).mono ?_
            (case side1 => exact Cz.cb HR0_4)
            (case side2 => exact HC0_4.out)
            rintro e w107 ⟨rfl, hb⟩
            refine ⟨_, rfl, ?_⟩
            have n0_ := Cz.rb HO_296004 hb
            have n1_ := Cz.rb HO_305004 hb
            have n2_ := Cz.rb HO_314004 hb
            have n3_ := Cz.rb HO_323004 hb
            have n4_ := Cz.bk BK284 hb
            have n5_ := Cz.bk BK285 hb
            have n6_ := Cz.bk BK295 hb
            have n7_ := Cz.bk BK304 hb
            have n8_ := Cz.bk BK313 hb
            have n9_ := Cz.bk BK322 hb
            have n10_ := Cz.bs (w := w) hb
            clear HO_296004
            clear HO_305004
            clear HO_314004
            clear HO_323004
            clear BK284
            clear BK285
            clear BK295
            clear BK304
            clear BK313
            clear BK322
            clear HB
            have HO_296004 := n0_
            have HO_305004 := n1_
            have HO_314004 := n2_
            have HO_323004 := n3_
            have BK284 := n4_
            have BK285 := n5_
            have BK295 := n6_
            have BK304 := n7_
            have BK313 := n8_
            have BK322 := n9_
            have HB := n10_
            clear n0_ n1_ n2_ n3_ n4_ n5_ n6_ n7_ n8_ n9_ n10_
            (try clear hb)
            (try clear hb2)
            (try clear hk)
            (try clear hi)
            refine hK.out _ _ ⟨(blk_cell BK284.out 0).trans rfl, (blk_cell BK284.out 1).trans rfl, (blk_cell BK284.out 2).trans rfl, (blk_cell BK284.out 3).trans rfl, (blk_cell BK284.out 4).trans rfl, (blk_cell BK285.out 0).trans rfl, (blk_cell BK285.out 1).trans rfl, (blk_cell BK285.out 2).trans rfl, (blk_cell BK285.out 3).trans rfl, (blk_cell BK285.out 4).trans rfl⟩ (fun hHeld => ?_)
            clear hK K
            refine norm_ (a' := ?_) ?_ ?_
            rotate_left
            ·show Act.put _ (some 68) _ = _
             simp only [Act.put, Kx.sb, Kx.sz, Kx.ss, i64_w, i32_w]
             rfl
            refine Cz.qO (N := some 70) 5 HT_ (fun K hK => ?_)
            refine Cz.gO Try.func39 #[.agg #[.int .i64 a0_0, .int .i64 a0_1, .int .i64 a0_2, .int .i64 a0_3, .slice A0_4 l0_4.length c0_4]] ?_
            with_reducible refine (waggonerref07_Check.calls a0_0 a0_1 a0_2 a0_3 _ _ l0_4 t326 _ ?side1 ?side2 A96.out).mono ?_
            (case side1 => exact Cz.cb HR0_4)
            (case side2 => exact HC0_4.out)
            rintro e w108 ⟨rfl, hb⟩
            refine ⟨_, rfl, ?_⟩
            have n0_ := Cz.rb HO_296004 hb
            have n1_ := Cz.rb HO_305004 hb
            have n2_ := Cz.rb HO_314004 hb
            have n3_ := Cz.rb HO_323004 hb
            have n4_ := Cz.bk BK284 hb
            have n5_ := Cz.bk BK285 hb
            have n6_ := Cz.bk BK295 hb
            have n7_ := Cz.bk BK304 hb
            have n8_ := Cz.bk BK313 hb
            have n9_ := Cz.bk BK322 hb
            have n10_ := Cz.bs (w := w) hb
            clear HO_296004
            clear HO_305004
            clear HO_314004
            clear HO_323004
            clear BK284
            clear BK285
            clear BK295
            clear BK304
            clear BK313
            clear BK322
            clear HB
            have HO_296004 := n0_
            have HO_305004 := n1_
            have HO_314004 := n2_
            have HO_323004 := n3_
            have BK284 := n4_
            have BK285 := n5_
            have BK295 := n6_
            have BK304 := n7_
            have BK313 := n8_
            have BK322 := n9_
            have HB := n10_
            clear n0_ n1_ n2_ n3_ n4_ n5_ n6_ n7_ n8_ n9_ n10_
            (try clear hb)
            (try clear hb2)
            (try clear hk)
            (try clear hi)
            refine hK.out _ _ ⟨(blk_cell BK284.out 0).trans rfl, (blk_cell BK284.out 1).trans rfl, (blk_cell BK284.out 2).trans rfl, (blk_cell BK284.out 3).trans rfl, (blk_cell BK284.out 4).trans rfl, (blk_cell BK285.out 0).trans rfl, (blk_cell BK285.out 1).trans rfl, (blk_cell BK285.out 2).trans rfl, (blk_cell BK285.out 3).trans rfl, (blk_cell BK285.out 4).trans rfl⟩ (fun hHeld => ?_)
            clear hK K
            refine norm_ (a' := ?_) ?_ ?_
            rotate_left
            ·show Act.put _ (some 70) _ = _
             simp only [Act.put, Kx.sb, Kx.sz, Kx.ss, i64_w, i32_w]
             rfl
            refine Cz.qP 6 71 HT_ ?_
            refine Cz.qP 7 72 HT_ ?_
            refine Cz.qP 8 73 HT_ ?_
            refine Cz.qT 9 74 HT_ HW_ hHeld ?_
            refine Cz.qT 12 77 HT_ HW_ hHeld ?_
            refine Cz.qO (N := some 75) 10 HT_ (fun K hK => ?_)
            refine Cz.gO Try.func40 #[.agg #[.int .i64 a0_0, .int .i64 a0_1, .int .i64 a0_2, .int .i64 a0_3, .slice A0_4 l0_4.length c0_4]] ?_
            with_reducible refine (extent_Bytes.calls a0_0 a0_1 a0_2 a0_3 _ _ l0_4 t327 _ ?side1 ?side2 A98.out).mono ?_
            (case side1 => exact Cz.cb HR0_4)
            (case side2 => exact HC0_4.out)
            rintro e w109 ⟨v328, rfl, ho0, hb⟩
            refine ⟨_, rfl, ?_⟩
            have n0_ := Aside0.mk (Kd.R_elder' (by (with_reducible repeat (first | apply Kd.R_alloc | apply Kd.R_drewN | apply Kd.R_drew)); exact HO_296004.out) (Kd.R_base ho0) hb)
            have n1_ := Aside0.mk (Kd.R_elder' (by (with_reducible repeat (first | apply Kd.R_alloc | apply Kd.R_drewN | apply Kd.R_drew)); exact HO_305004.out) (Kd.R_base ho0) hb)
            have n2_ := Aside0.mk (Kd.R_elder' (by (with_reducible repeat (first | apply Kd.R_alloc | apply Kd.R_drewN | apply Kd.R_drew)); exact HO_314004.out) (Kd.R_base ho0) hb)
            have n3_ := Aside0.mk (Kd.R_elder' (by (with_reducible repeat (first | apply Kd.R_alloc | apply Kd.R_drewN | apply Kd.R_drew)); exact HO_323004.out) (Kd.R_base ho0) hb)
            have n4_ := Aside0.mk (Kd.R_lower (Kd.R_new' (Kd.R_new' (Kd.R_new' (Kd.R_new' ho0 (Kd.R_lt (by (with_reducible repeat (first | apply Kd.R_alloc | apply Kd.R_drewN | apply Kd.R_drew)); exact HO_296004.out))) (Kd.R_lt (by (with_reducible repeat (first | apply Kd.R_alloc | apply Kd.R_drewN | apply Kd.R_drew)); exact HO_305004.out))) (Kd.R_lt (by (with_reducible repeat (first | apply Kd.R_alloc | apply Kd.R_drewN | apply Kd.R_drew)); exact HO_314004.out))) (Kd.R_lt (by (with_reducible repeat (first | apply Kd.R_alloc | apply Kd.R_drewN | apply Kd.R_drew)); exact HO_323004.out))) (below_size (by repeat (first | (with_reducible first | exact HB.out | apply below_alloc | apply pw_below_drewN | apply below_drew1 | refine below_set ?_ GE284.out | refine below_set ?_ GE285.out | refine below_set ?_ GE295.out | refine below_set ?_ GE304.out | refine below_set ?_ GE313.out | refine below_set ?_ GE322.out) | exact HB.out))))
            have n5_ := Cz.bk BK284 hb
            have n6_ := Cz.bk BK285 hb
            have n7_ := Cz.bk BK295 hb
            have n8_ := Cz.bk BK304 hb
            have n9_ := Cz.bk BK313 hb
            have n10_ := Cz.bk BK322 hb
            have n11_ := Cz.bs (w := w) hb
            clear HO_296004
            clear HO_305004
            clear HO_314004
            clear HO_323004
            clear BK284
            clear BK285
            clear BK295
            clear BK304
            clear BK313
            clear BK322
            clear HB
            have HO_296004 := n0_
            have HO_305004 := n1_
            have HO_314004 := n2_
            have HO_323004 := n3_
            have HO329 := n4_
            have BK284 := n5_
            have BK285 := n6_
            have BK295 := n7_
            have BK304 := n8_
            have BK313 := n9_
            have BK322 := n10_
            have HB := n11_
            clear n0_ n1_ n2_ n3_ n4_ n5_ n6_ n7_ n8_ n9_ n10_ n11_
            (try clear hb)
            (try clear hb2)
            (try clear hk)
            (try clear hi)
            (try clear ho0)
            refine hK.out _ _ ⟨(blk_cell BK284.out 0).trans rfl, (blk_cell BK284.out 1).trans rfl, (blk_cell BK284.out 2).trans rfl, (blk_cell BK284.out 3).trans rfl, (blk_cell BK284.out 4).trans rfl, (blk_cell BK285.out 0).trans rfl, (blk_cell BK285.out 1).trans rfl, (blk_cell BK285.out 2).trans rfl, (blk_cell BK285.out 3).trans rfl, (blk_cell BK285.out 4).trans rfl⟩ (fun hHeld => ?_)
            clear hK K
            refine norm_ (a' := ?_) ?_ ?_
            rotate_left
            ·show Act.put _ (some 75) _ = _
             simp only [Act.put, Kx.sb, Kx.sz, Kx.ss, i64_w, i32_w]
             rfl
            refine join_ (σ := Value) 25 #[true, true, true, true, true, true, true, true, true, true, true, true, true, true, true, false, false, false, false, false, false, false, false, false, false, false, false, false, false, false, false, false, false, false, false, false, false, false, false, false] (fun s_ => [(76, .string (strOfNums t327)), (78, s_), (79, .string (strOfNums t330))]) (fun s_ w' => (w'.cell? ⟨gb284, 0, none⟩ = some (.int .i64 a0_0) ∧ w'.cell? ⟨gb284, 1, none⟩ = some (.int .i64 a0_1) ∧ w'.cell? ⟨gb284, 2, none⟩ = some (.int .i64 a0_2) ∧ w'.cell? ⟨gb284, 3, none⟩ = some (.int .i64 a0_3) ∧ w'.cell? ⟨gb284, 4, none⟩ = some (.slice A0_4 l0_4.length c0_4) ∧ w'.cell? ⟨gb285, 0, none⟩ = some (.int .i64 a1_0) ∧ w'.cell? ⟨gb285, 1, none⟩ = some (.int .i64 a1_1) ∧ w'.cell? ⟨gb285, 2, none⟩ = some (.int .i64 a1_2) ∧ w'.cell? ⟨gb285, 3, none⟩ = some (.int .i64 a1_3) ∧ w'.cell? ⟨gb285, 4, none⟩ = some (.slice A1_4 l1_4.length c1_4)) ∧ (Kd.R (Kd.int .u8) 5 w' w.heap.size (fun k_ => some k_ ≠ (s_ : Value).ownBlock ∧ some k_ ≠ (.slice Ao29 t291.length co29 : Value).ownBlock ∧ some k_ ≠ (.slice Ao37 t300.length co37 : Value).ownBlock ∧ some k_ ≠ (.slice Ao47 t309.length co47 : Value).ownBlock ∧ some k_ ≠ (.slice Ao58 t318.length co58 : Value).ownBlock) v328 t327) ∧ (Kd.R (Kd.int .u8) 5 w' w.heap.size (fun k_ => some k_ ≠ (v328 : Value).ownBlock ∧ some k_ ≠ (.slice Ao29 t291.length co29 : Value).ownBlock ∧ some k_ ≠ (.slice Ao37 t300.length co37 : Value).ownBlock ∧ some k_ ≠ (.slice Ao47 t309.length co47 : Value).ownBlock ∧ some k_ ≠ (.slice Ao58 t318.length co58 : Value).ownBlock) s_ t330) ∧ (Kd.R (Kd.int .u8) 5 w' w.heap.size (fun k_ => some k_ ≠ (v328 : Value).ownBlock ∧ some k_ ≠ (s_ : Value).ownBlock ∧ some k_ ≠ (.slice Ao37 t300.length co37 : Value).ownBlock ∧ some k_ ≠ (.slice Ao47 t309.length co47 : Value).ownBlock ∧ some k_ ≠ (.slice Ao58 t318.length co58 : Value).ownBlock) (.slice Ao29 t291.length co29) t291) ∧ (Kd.R (Kd.int .u8) 5 w' w.heap.size (fun k_ => some k_ ≠ (v328 : Value).ownBlock ∧ some k_ ≠ (s_ : Value).ownBlock ∧ some k_ ≠ (.slice Ao29 t291.length co29 : Value).ownBlock ∧ some k_ ≠ (.slice Ao47 t309.length co47 : Value).ownBlock ∧ some k_ ≠ (.slice Ao58 t318.length co58 : Value).ownBlock) (.slice Ao37 t300.length co37) t300) ∧ (Kd.R (Kd.int .u8) 5 w' w.heap.size (fun k_ => some k_ ≠ (v328 : Value).ownBlock ∧ some k_ ≠ (s_ : Value).ownBlock ∧ some k_ ≠ (.slice Ao29 t291.length co29 : Value).ownBlock ∧ some k_ ≠ (.slice Ao37 t300.length co37 : Value).ownBlock ∧ some k_ ≠ (.slice Ao58 t318.length co58 : Value).ownBlock) (.slice Ao47 t309.length co47) t309) ∧ (Kd.R (Kd.int .u8) 5 w' w.heap.size (fun k_ => some k_ ≠ (v328 : Value).ownBlock ∧ some k_ ≠ (s_ : Value).ownBlock ∧ some k_ ≠ (.slice Ao29 t291.length co29 : Value).ownBlock ∧ some k_ ≠ (.slice Ao37 t300.length co37 : Value).ownBlock ∧ some k_ ≠ (.slice Ao47 t309.length co47 : Value).ownBlock) (.slice Ao58 t318.length co58) t318) ∧ (w'.heap[gb284]? = some (.cells #[.int .i64 a0_0, .int .i64 a0_1, .int .i64 a0_2, .int .i64 a0_3, .slice A0_4 l0_4.length c0_4] 46 (0, 0))) ∧ (w'.heap[gb285]? = some (.cells #[.int .i64 a1_0, .int .i64 a1_1, .int .i64 a1_2, .int .i64 a1_3, .slice A1_4 l1_4.length c1_4] 46 (0, 0))) ∧ (w'.heap[gb295]? = some (.cells #[.int .i64 t287, .int .i64 t288, .int .i64 t289, .int .i64 t290, .slice Ao29 t291.length co29] 46 (0, 0))) ∧ (w'.heap[gb304]? = some (.cells #[.int .i64 t296, .int .i64 t297, .int .i64 t298, .int .i64 t299, .slice Ao37 t300.length co37] 46 (0, 0))) ∧ (w'.heap[gb313]? = some (.cells #[.int .i64 t305, .int .i64 t306, .int .i64 t307, .int .i64 t308, .slice Ao47 t309.length co47] 46 (0, 0))) ∧ (w'.heap[gb322]? = some (.cells #[.int .i64 t314, .int .i64 t315, .int .i64 t316, .int .i64 t317, .slice Ao58 t318.length co58] 46 (0, 0))) ∧ (Below w.heap.size w w')) ?_ ?_
            rotate_left
            ·intro hCont
             refine two_ (i := 11) (j := 13) (Ni := some 76) (Nj := some 78) #[true, true, true, true, true, true, true, true, true, true, true, true, true, false, false, false, false, false, false, false, false, false, false, false, false, false, false, false, false, false, false, false, false, false, false, false, false, false, false, false] #[true, true, true, true, true, true, true, true, true, true, true, false, true, true, false, false, false, false, false, false, false, false, false, false, false, false, false, false, false, false, false, false, false, false, false, false, false, false, false, false] rfl rfl rfl rfl (two_of HT_.out (by kernel_rfl)) (by decide) (by decide) (fun K hK => ?_) (fun K hK => ?_)
             ·skip
              have hcv110 := own_string (P := Try.prog) Try.underlying23 Try.underlying5 Try.underlying9 (Kd.own_of_R HO329.out)
              refine value_ (w1 := ?_) (v := ?_) (by rfl) rfl ?_ ?_
              rotate_left 2
              ·go_simp
               constructor
               ·rfl
               ·rfl
              clear hcv110
              refine hK.out _ _ ⟨(blk_cell BK284.out 0).trans rfl, (blk_cell BK284.out 1).trans rfl, (blk_cell BK284.out 2).trans rfl, (blk_cell BK284.out 3).trans rfl, (blk_cell BK284.out 4).trans rfl, (blk_cell BK285.out 0).trans rfl, (blk_cell BK285.out 1).trans rfl, (blk_cell BK285.out 2).trans rfl, (blk_cell BK285.out 3).trans rfl, (blk_cell BK285.out 4).trans rfl⟩ (fun hHeld => ?_)
              clear hK K
              refine norm_ (a' := ?_) ?_ ?_
              rotate_left
              ·show Act.put _ (some 76) _ = _
               simp only [Act.put, Kx.sb, Kx.sz, Kx.ss, i64_w, i32_w]
               rfl
              refine Cz.qO (N := some 78) 13 HT_ (fun K hK => ?_)
              refine Cz.gO Try.func41 #[.agg #[.int .i64 a0_0, .int .i64 a0_1, .int .i64 a0_2, .int .i64 a0_3, .slice A0_4 l0_4.length c0_4]] ?_
              with_reducible refine (waggonerref07_Bytes.calls a0_0 a0_1 a0_2 a0_3 _ _ l0_4 t330 _ ?side1 ?side2 A99.out).mono ?_
              (case side1 => exact Cz.cb HR0_4)
              (case side2 => exact HC0_4.out)
              rintro e w111 ⟨v331, rfl, ho0, hb⟩
              refine ⟨_, rfl, ?_⟩
              have n0_ := Aside0.mk (Kd.R_elder' (by (with_reducible repeat (first | apply Kd.R_alloc | apply Kd.R_drewN | apply Kd.R_drew)); exact HO_296004.out) (Kd.R_base ho0) hb)
              have n1_ := Aside0.mk (Kd.R_elder' (by (with_reducible repeat (first | apply Kd.R_alloc | apply Kd.R_drewN | apply Kd.R_drew)); exact HO_305004.out) (Kd.R_base ho0) hb)
              have n2_ := Aside0.mk (Kd.R_elder' (by (with_reducible repeat (first | apply Kd.R_alloc | apply Kd.R_drewN | apply Kd.R_drew)); exact HO_314004.out) (Kd.R_base ho0) hb)
              have n3_ := Aside0.mk (Kd.R_elder' (by (with_reducible repeat (first | apply Kd.R_alloc | apply Kd.R_drewN | apply Kd.R_drew)); exact HO_323004.out) (Kd.R_base ho0) hb)
              have n4_ := Aside0.mk (Kd.R_elder' (by (with_reducible repeat (first | apply Kd.R_alloc | apply Kd.R_drewN | apply Kd.R_drew)); exact HO329.out) (Kd.R_base ho0) hb)
              have n5_ := Aside0.mk (Kd.R_lower (Kd.R_new' (Kd.R_new' (Kd.R_new' (Kd.R_new' (Kd.R_new' ho0 (Kd.R_lt (by (with_reducible repeat (first | apply Kd.R_alloc | apply Kd.R_drewN | apply Kd.R_drew)); exact HO_296004.out))) (Kd.R_lt (by (with_reducible repeat (first | apply Kd.R_alloc | apply Kd.R_drewN | apply Kd.R_drew)); exact HO_305004.out))) (Kd.R_lt (by (with_reducible repeat (first | apply Kd.R_alloc | apply Kd.R_drewN | apply Kd.R_drew)); exact HO_314004.out))) (Kd.R_lt (by (with_reducible repeat (first | apply Kd.R_alloc | apply Kd.R_drewN | apply Kd.R_drew)); exact HO_323004.out))) (Kd.R_lt (by (with_reducible repeat (first | apply Kd.R_alloc | apply Kd.R_drewN | apply Kd.R_drew)); exact HO329.out))) (below_size (by repeat (first | (with_reducible first | exact HB.out | apply below_alloc | apply pw_below_drewN | apply below_drew1 | refine below_set ?_ GE284.out | refine below_set ?_ GE285.out | refine below_set ?_ GE295.out | refine below_set ?_ GE304.out | refine below_set ?_ GE313.out | refine below_set ?_ GE322.out) | exact HB.out))))
              have n6_ := Cz.bk BK284 hb
              have n7_ := Cz.bk BK285 hb
              have n8_ := Cz.bk BK295 hb
              have n9_ := Cz.bk BK304 hb
              have n10_ := Cz.bk BK313 hb
              have n11_ := Cz.bk BK322 hb
              have n12_ := Cz.bs (w := w) hb
              clear HO_296004
              clear HO_305004
              clear HO_314004
              clear HO_323004
              clear HO329
              clear BK284
              clear BK285
              clear BK295
              clear BK304
              clear BK313
              clear BK322
              clear HB
              have HO_296004 := n0_
              have HO_305004 := n1_
              have HO_314004 := n2_
              have HO_323004 := n3_
              have HO329 := n4_
              have HO332 := n5_
              have BK284 := n6_
              have BK285 := n7_
              have BK295 := n8_
              have BK304 := n9_
              have BK313 := n10_
              have BK322 := n11_
              have HB := n12_
              clear n0_ n1_ n2_ n3_ n4_ n5_ n6_ n7_ n8_ n9_ n10_ n11_ n12_
              (try clear hb)
              (try clear hb2)
              (try clear hk)
              (try clear hi)
              (try clear ho0)
              refine hK.out _ _ ⟨(blk_cell BK284.out 0).trans rfl, (blk_cell BK284.out 1).trans rfl, (blk_cell BK284.out 2).trans rfl, (blk_cell BK284.out 3).trans rfl, (blk_cell BK284.out 4).trans rfl, (blk_cell BK285.out 0).trans rfl, (blk_cell BK285.out 1).trans rfl, (blk_cell BK285.out 2).trans rfl, (blk_cell BK285.out 3).trans rfl, (blk_cell BK285.out 4).trans rfl⟩ (fun hHeld => ?_)
              clear hK K
              refine norm_ (a' := ?_) ?_ ?_
              rotate_left
              ·show Act.put _ (some 78) _ = _
               simp only [Act.put, Kx.sb, Kx.sz, Kx.ss, i64_w, i32_w]
               rfl
              refine Cz.qO (N := some 79) 14 HT_ (fun K hK => ?_)
              have hcv112 := own_string (P := Try.prog) Try.underlying23 Try.underlying5 Try.underlying9 (Kd.own_of_R HO332.out)
              refine value_ (w1 := ?_) (v := ?_) (by rfl) rfl ?_ ?_
              rotate_left 2
              ·go_simp
               constructor
               ·rfl
               ·rfl
              clear hcv112
              refine hK.out _ _ ⟨(blk_cell BK284.out 0).trans rfl, (blk_cell BK284.out 1).trans rfl, (blk_cell BK284.out 2).trans rfl, (blk_cell BK284.out 3).trans rfl, (blk_cell BK284.out 4).trans rfl, (blk_cell BK285.out 0).trans rfl, (blk_cell BK285.out 1).trans rfl, (blk_cell BK285.out 2).trans rfl, (blk_cell BK285.out 3).trans rfl, (blk_cell BK285.out 4).trans rfl⟩ (fun hHeld => ?_)
              clear hK K
              refine norm_ (a' := ?_) ?_ ?_
              rotate_left
              ·show Act.put _ (some 79) _ = _
               simp only [Act.put, Kx.sb, Kx.sz, Kx.ss, i64_w, i32_w]
               rfl
              exact norm_ (by simp only [putAll, Act.put, Kx.sb, Kx.sz, Kx.ss]) (hCont (v331) _ ⟨hHeld, (by (with_reducible repeat (first | apply Kd.R_alloc | apply Kd.R_drewN | apply Kd.R_drew)); exact Kd.R_mono HO329.out (fun _ hk => ⟨hk.2, ⟨hk.1.1.1.1.2, ⟨hk.1.1.1.2, ⟨hk.1.1.2, hk.1.2⟩⟩⟩⟩)), (by (with_reducible repeat (first | apply Kd.R_alloc | apply Kd.R_drewN | apply Kd.R_drew)); exact Kd.R_mono HO332.out (fun _ hk => ⟨hk.2, ⟨hk.1.1.1.1.2, ⟨hk.1.1.1.2, ⟨hk.1.1.2, hk.1.2⟩⟩⟩⟩)), (by (with_reducible repeat (first | apply Kd.R_alloc | apply Kd.R_drewN | apply Kd.R_drew)); exact Kd.R_mono HO_296004.out (fun _ hk => ⟨hk.1.2, ⟨hk.2, ⟨hk.1.1.1, ⟨hk.1.1.2.1, hk.1.1.2.2⟩⟩⟩⟩)), (by (with_reducible repeat (first | apply Kd.R_alloc | apply Kd.R_drewN | apply Kd.R_drew)); exact Kd.R_mono HO_305004.out (fun _ hk => ⟨hk.1.2, ⟨hk.2, ⟨hk.1.1.1, ⟨hk.1.1.2.1, hk.1.1.2.2⟩⟩⟩⟩)), (by (with_reducible repeat (first | apply Kd.R_alloc | apply Kd.R_drewN | apply Kd.R_drew)); exact Kd.R_mono HO_314004.out (fun _ hk => ⟨hk.1.2, ⟨hk.2, ⟨hk.1.1.1, ⟨hk.1.1.2.1, hk.1.1.2.2⟩⟩⟩⟩)), (by (with_reducible repeat (first | apply Kd.R_alloc | apply Kd.R_drewN | apply Kd.R_drew)); exact Kd.R_mono HO_323004.out (fun _ hk => ⟨hk.1.2, ⟨hk.2, ⟨hk.1.1.1, ⟨hk.1.1.2.1, hk.1.1.2.2⟩⟩⟩⟩)), (by (with_reducible repeat (first | refine blk_drewN ?_ _ | refine blk_drew ?_ | refine blk_alloc ?_ _)); exact BK284.out), (by (with_reducible repeat (first | refine blk_drewN ?_ _ | refine blk_drew ?_ | refine blk_alloc ?_ _)); exact BK285.out), (by (with_reducible repeat (first | refine blk_drewN ?_ _ | refine blk_drew ?_ | refine blk_alloc ?_ _)); exact BK295.out), (by (with_reducible repeat (first | refine blk_drewN ?_ _ | refine blk_drew ?_ | refine blk_alloc ?_ _)); exact BK304.out), (by (with_reducible repeat (first | refine blk_drewN ?_ _ | refine blk_drew ?_ | refine blk_alloc ?_ _)); exact BK313.out), (by (with_reducible repeat (first | refine blk_drewN ?_ _ | refine blk_drew ?_ | refine blk_alloc ?_ _)); exact BK322.out), (by repeat (first | (with_reducible first | exact HB.out | apply below_alloc | apply pw_below_drewN | apply below_drew1 | refine below_set ?_ GE284.out | refine below_set ?_ GE285.out | refine below_set ?_ GE295.out | refine below_set ?_ GE304.out | refine below_set ?_ GE313.out | refine below_set ?_ GE322.out) | exact HB.out))⟩)
             ·skip
              refine Cz.gO Try.func41 #[.agg #[.int .i64 a0_0, .int .i64 a0_1, .int .i64 a0_2, .int .i64 a0_3, .slice A0_4 l0_4.length c0_4]] ?_
              with_reducible refine (waggonerref07_Bytes.calls a0_0 a0_1 a0_2 a0_3 _ _ l0_4 t330 _ ?side1 ?side2 A99.out).mono ?_
              (case side1 => exact Cz.cb HR0_4)
              (case side2 => exact HC0_4.out)
              rintro e w110 ⟨v331, rfl, ho0, hb⟩
              refine ⟨_, rfl, ?_⟩
              have n0_ := Aside0.mk (Kd.R_elder' (by (with_reducible repeat (first | apply Kd.R_alloc | apply Kd.R_drewN | apply Kd.R_drew)); exact HO_296004.out) (Kd.R_base ho0) hb)
              have n1_ := Aside0.mk (Kd.R_elder' (by (with_reducible repeat (first | apply Kd.R_alloc | apply Kd.R_drewN | apply Kd.R_drew)); exact HO_305004.out) (Kd.R_base ho0) hb)
              have n2_ := Aside0.mk (Kd.R_elder' (by (with_reducible repeat (first | apply Kd.R_alloc | apply Kd.R_drewN | apply Kd.R_drew)); exact HO_314004.out) (Kd.R_base ho0) hb)
              have n3_ := Aside0.mk (Kd.R_elder' (by (with_reducible repeat (first | apply Kd.R_alloc | apply Kd.R_drewN | apply Kd.R_drew)); exact HO_323004.out) (Kd.R_base ho0) hb)
              have n4_ := Aside0.mk (Kd.R_elder' (by (with_reducible repeat (first | apply Kd.R_alloc | apply Kd.R_drewN | apply Kd.R_drew)); exact HO329.out) (Kd.R_base ho0) hb)
              have n5_ := Aside0.mk (Kd.R_lower (Kd.R_new' (Kd.R_new' (Kd.R_new' (Kd.R_new' (Kd.R_new' ho0 (Kd.R_lt (by (with_reducible repeat (first | apply Kd.R_alloc | apply Kd.R_drewN | apply Kd.R_drew)); exact HO_296004.out))) (Kd.R_lt (by (with_reducible repeat (first | apply Kd.R_alloc | apply Kd.R_drewN | apply Kd.R_drew)); exact HO_305004.out))) (Kd.R_lt (by (with_reducible repeat (first | apply Kd.R_alloc | apply Kd.R_drewN | apply Kd.R_drew)); exact HO_314004.out))) (Kd.R_lt (by (with_reducible repeat (first | apply Kd.R_alloc | apply Kd.R_drewN | apply Kd.R_drew)); exact HO_323004.out))) (Kd.R_lt (by (with_reducible repeat (first | apply Kd.R_alloc | apply Kd.R_drewN | apply Kd.R_drew)); exact HO329.out))) (below_size (by repeat (first | (with_reducible first | exact HB.out | apply below_alloc | apply pw_below_drewN | apply below_drew1 | refine below_set ?_ GE284.out | refine below_set ?_ GE285.out | refine below_set ?_ GE295.out | refine below_set ?_ GE304.out | refine below_set ?_ GE313.out | refine below_set ?_ GE322.out) | exact HB.out))))
              have n6_ := Cz.bk BK284 hb
              have n7_ := Cz.bk BK285 hb
              have n8_ := Cz.bk BK295 hb
              have n9_ := Cz.bk BK304 hb
              have n10_ := Cz.bk BK313 hb
              have n11_ := Cz.bk BK322 hb
              have n12_ := Cz.bs (w := w) hb
              clear HO_296004
              clear HO_305004
              clear HO_314004
              clear HO_323004
              clear HO329
              clear BK284
              clear BK285
              clear BK295
              clear BK304
              clear BK313
              clear BK322
              clear HB
              have HO_296004 := n0_
              have HO_305004 := n1_
              have HO_314004 := n2_
              have HO_323004 := n3_
              have HO329 := n4_
              have HO332 := n5_
              have BK284 := n6_
              have BK285 := n7_
              have BK295 := n8_
              have BK304 := n9_
              have BK313 := n10_
              have BK322 := n11_
              have HB := n12_
              clear n0_ n1_ n2_ n3_ n4_ n5_ n6_ n7_ n8_ n9_ n10_ n11_ n12_
              (try clear hb)
              (try clear hb2)
              (try clear hk)
              (try clear hi)
              (try clear ho0)
              refine hK.out _ _ ⟨(blk_cell BK284.out 0).trans rfl, (blk_cell BK284.out 1).trans rfl, (blk_cell BK284.out 2).trans rfl, (blk_cell BK284.out 3).trans rfl, (blk_cell BK284.out 4).trans rfl, (blk_cell BK285.out 0).trans rfl, (blk_cell BK285.out 1).trans rfl, (blk_cell BK285.out 2).trans rfl, (blk_cell BK285.out 3).trans rfl, (blk_cell BK285.out 4).trans rfl⟩ (fun hHeld => ?_)
              clear hK K
              refine norm_ (a' := ?_) ?_ ?_
              rotate_left
              ·show Act.put _ (some 78) _ = _
               simp only [Act.put, Kx.sb, Kx.sz, Kx.ss, i64_w, i32_w]
               rfl
              refine two_ (i := 11) (j := 14) (Ni := some 76) (Nj := some 79) #[true, true, true, true, true, true, true, true, true, true, true, true, true, true, false, false, false, false, false, false, false, false, false, false, false, false, false, false, false, false, false, false, false, false, false, false, false, false, false, false] #[true, true, true, true, true, true, true, true, true, true, true, false, true, true, true, false, false, false, false, false, false, false, false, false, false, false, false, false, false, false, false, false, false, false, false, false, false, false, false, false] rfl rfl rfl rfl (two_of HT_.out (by kernel_rfl)) (by decide) (by decide) (fun K hK => ?_) (fun K hK => ?_)
              ·skip
               have hcv111 := own_string (P := Try.prog) Try.underlying23 Try.underlying5 Try.underlying9 (Kd.own_of_R HO329.out)
               refine value_ (w1 := ?_) (v := ?_) (by rfl) rfl ?_ ?_
               rotate_left 2
               ·go_simp
                constructor
                ·rfl
                ·rfl
               clear hcv111
               refine hK.out _ _ ⟨(blk_cell BK284.out 0).trans rfl, (blk_cell BK284.out 1).trans rfl, (blk_cell BK284.out 2).trans rfl, (blk_cell BK284.out 3).trans rfl, (blk_cell BK284.out 4).trans rfl, (blk_cell BK285.out 0).trans rfl, (blk_cell BK285.out 1).trans rfl, (blk_cell BK285.out 2).trans rfl, (blk_cell BK285.out 3).trans rfl, (blk_cell BK285.out 4).trans rfl⟩ (fun hHeld => ?_)
               clear hK K
               refine norm_ (a' := ?_) ?_ ?_
               rotate_left
               ·show Act.put _ (some 76) _ = _
                simp only [Act.put, Kx.sb, Kx.sz, Kx.ss, i64_w, i32_w]
                rfl
               refine Cz.qO (N := some 79) 14 HT_ (fun K hK => ?_)
               have hcv112 := own_string (P := Try.prog) Try.underlying23 Try.underlying5 Try.underlying9 (Kd.own_of_R HO332.out)
               refine value_ (w1 := ?_) (v := ?_) (by rfl) rfl ?_ ?_
               rotate_left 2
               ·go_simp
                constructor
                ·rfl
                ·rfl
               clear hcv112
               refine hK.out _ _ ⟨(blk_cell BK284.out 0).trans rfl, (blk_cell BK284.out 1).trans rfl, (blk_cell BK284.out 2).trans rfl, (blk_cell BK284.out 3).trans rfl, (blk_cell BK284.out 4).trans rfl, (blk_cell BK285.out 0).trans rfl, (blk_cell BK285.out 1).trans rfl, (blk_cell BK285.out 2).trans rfl, (blk_cell BK285.out 3).trans rfl, (blk_cell BK285.out 4).trans rfl⟩ (fun hHeld => ?_)
               clear hK K
               refine norm_ (a' := ?_) ?_ ?_
               rotate_left
               ·show Act.put _ (some 79) _ = _
                simp only [Act.put, Kx.sb, Kx.sz, Kx.ss, i64_w, i32_w]
                rfl
               exact norm_ (by simp only [putAll, Act.put, Kx.sb, Kx.sz, Kx.ss]) (hCont (v331) _ ⟨hHeld, (by (with_reducible repeat (first | apply Kd.R_alloc | apply Kd.R_drewN | apply Kd.R_drew)); exact Kd.R_mono HO329.out (fun _ hk => ⟨hk.2, ⟨hk.1.1.1.1.2, ⟨hk.1.1.1.2, ⟨hk.1.1.2, hk.1.2⟩⟩⟩⟩)), (by (with_reducible repeat (first | apply Kd.R_alloc | apply Kd.R_drewN | apply Kd.R_drew)); exact Kd.R_mono HO332.out (fun _ hk => ⟨hk.2, ⟨hk.1.1.1.1.2, ⟨hk.1.1.1.2, ⟨hk.1.1.2, hk.1.2⟩⟩⟩⟩)), (by (with_reducible repeat (first | apply Kd.R_alloc | apply Kd.R_drewN | apply Kd.R_drew)); exact Kd.R_mono HO_296004.out (fun _ hk => ⟨hk.1.2, ⟨hk.2, ⟨hk.1.1.1, ⟨hk.1.1.2.1, hk.1.1.2.2⟩⟩⟩⟩)), (by (with_reducible repeat (first | apply Kd.R_alloc | apply Kd.R_drewN | apply Kd.R_drew)); exact Kd.R_mono HO_305004.out (fun _ hk => ⟨hk.1.2, ⟨hk.2, ⟨hk.1.1.1, ⟨hk.1.1.2.1, hk.1.1.2.2⟩⟩⟩⟩)), (by (with_reducible repeat (first | apply Kd.R_alloc | apply Kd.R_drewN | apply Kd.R_drew)); exact Kd.R_mono HO_314004.out (fun _ hk => ⟨hk.1.2, ⟨hk.2, ⟨hk.1.1.1, ⟨hk.1.1.2.1, hk.1.1.2.2⟩⟩⟩⟩)), (by (with_reducible repeat (first | apply Kd.R_alloc | apply Kd.R_drewN | apply Kd.R_drew)); exact Kd.R_mono HO_323004.out (fun _ hk => ⟨hk.1.2, ⟨hk.2, ⟨hk.1.1.1, ⟨hk.1.1.2.1, hk.1.1.2.2⟩⟩⟩⟩)), (by (with_reducible repeat (first | refine blk_drewN ?_ _ | refine blk_drew ?_ | refine blk_alloc ?_ _)); exact BK284.out), (by (with_reducible repeat (first | refine blk_drewN ?_ _ | refine blk_drew ?_ | refine blk_alloc ?_ _)); exact BK285.out), (by (with_reducible repeat (first | refine blk_drewN ?_ _ | refine blk_drew ?_ | refine blk_alloc ?_ _)); exact BK295.out), (by (with_reducible repeat (first | refine blk_drewN ?_ _ | refine blk_drew ?_ | refine blk_alloc ?_ _)); exact BK304.out), (by (with_reducible repeat (first | refine blk_drewN ?_ _ | refine blk_drew ?_ | refine blk_alloc ?_ _)); exact BK313.out), (by (with_reducible repeat (first | refine blk_drewN ?_ _ | refine blk_drew ?_ | refine blk_alloc ?_ _)); exact BK322.out), (by repeat (first | (with_reducible first | exact HB.out | apply below_alloc | apply pw_below_drewN | apply below_drew1 | refine below_set ?_ GE284.out | refine below_set ?_ GE285.out | refine below_set ?_ GE295.out | refine below_set ?_ GE304.out | refine below_set ?_ GE313.out | refine below_set ?_ GE322.out) | exact HB.out))⟩)
              ·skip
               have hcv111 := own_string (P := Try.prog) Try.underlying23 Try.underlying5 Try.underlying9 (Kd.own_of_R HO332.out)
               refine value_ (w1 := ?_) (v := ?_) (by rfl) rfl ?_ ?_
               rotate_left 2
               ·go_simp
                constructor
                ·rfl
                ·rfl
               clear hcv111
               refine hK.out _ _ ⟨(blk_cell BK284.out 0).trans rfl, (blk_cell BK284.out 1).trans rfl, (blk_cell BK284.out 2).trans rfl, (blk_cell BK284.out 3).trans rfl, (blk_cell BK284.out 4).trans rfl, (blk_cell BK285.out 0).trans rfl, (blk_cell BK285.out 1).trans rfl, (blk_cell BK285.out 2).trans rfl, (blk_cell BK285.out 3).trans rfl, (blk_cell BK285.out 4).trans rfl⟩ (fun hHeld => ?_)
               clear hK K
               refine norm_ (a' := ?_) ?_ ?_
               rotate_left
               ·show Act.put _ (some 79) _ = _
                simp only [Act.put, Kx.sb, Kx.sz, Kx.ss, i64_w, i32_w]
                rfl
               refine Cz.qO (N := some 76) 11 HT_ (fun K hK => ?_)
               have hcv112 := own_string (P := Try.prog) Try.underlying23 Try.underlying5 Try.underlying9 (Kd.own_of_R HO329.out)
               refine value_ (w1 := ?_) (v := ?_) (by rfl) rfl ?_ ?_
               rotate_left 2
               ·go_simp
                constructor
                ·rfl
                ·rfl
               clear hcv112
               refine hK.out _ _ ⟨(blk_cell BK284.out 0).trans rfl, (blk_cell BK284.out 1).trans rfl, (blk_cell BK284.out 2).trans rfl, (blk_cell BK284.out 3).trans rfl, (blk_cell BK284.out 4).trans rfl, (blk_cell BK285.out 0).trans rfl, (blk_cell BK285.out 1).trans rfl, (blk_cell BK285.out 2).trans rfl, (blk_cell BK285.out 3).trans rfl, (blk_cell BK285.out 4).trans rfl⟩ (fun hHeld => ?_)
               clear hK K
               refine norm_ (a' := ?_) ?_ ?_
               rotate_left
               ·show Act.put _ (some 76) _ = _
                simp only [Act.put, Kx.sb, Kx.sz, Kx.ss, i64_w, i32_w]
                rfl
               exact norm_ (by simp only [putAll, Act.put, Kx.sb, Kx.sz, Kx.ss]) (hCont (v331) _ ⟨hHeld, (by (with_reducible repeat (first | apply Kd.R_alloc | apply Kd.R_drewN | apply Kd.R_drew)); exact Kd.R_mono HO329.out (fun _ hk => ⟨hk.2, ⟨hk.1.1.1.1.2, ⟨hk.1.1.1.2, ⟨hk.1.1.2, hk.1.2⟩⟩⟩⟩)), (by (with_reducible repeat (first | apply Kd.R_alloc | apply Kd.R_drewN | apply Kd.R_drew)); exact Kd.R_mono HO332.out (fun _ hk => ⟨hk.2, ⟨hk.1.1.1.1.2, ⟨hk.1.1.1.2, ⟨hk.1.1.2, hk.1.2⟩⟩⟩⟩)), (by (with_reducible repeat (first | apply Kd.R_alloc | apply Kd.R_drewN | apply Kd.R_drew)); exact Kd.R_mono HO_296004.out (fun _ hk => ⟨hk.1.2, ⟨hk.2, ⟨hk.1.1.1, ⟨hk.1.1.2.1, hk.1.1.2.2⟩⟩⟩⟩)), (by (with_reducible repeat (first | apply Kd.R_alloc | apply Kd.R_drewN | apply Kd.R_drew)); exact Kd.R_mono HO_305004.out (fun _ hk => ⟨hk.1.2, ⟨hk.2, ⟨hk.1.1.1, ⟨hk.1.1.2.1, hk.1.1.2.2⟩⟩⟩⟩)), (by (with_reducible repeat (first | apply Kd.R_alloc | apply Kd.R_drewN | apply Kd.R_drew)); exact Kd.R_mono HO_314004.out (fun _ hk => ⟨hk.1.2, ⟨hk.2, ⟨hk.1.1.1, ⟨hk.1.1.2.1, hk.1.1.2.2⟩⟩⟩⟩)), (by (with_reducible repeat (first | apply Kd.R_alloc | apply Kd.R_drewN | apply Kd.R_drew)); exact Kd.R_mono HO_323004.out (fun _ hk => ⟨hk.1.2, ⟨hk.2, ⟨hk.1.1.1, ⟨hk.1.1.2.1, hk.1.1.2.2⟩⟩⟩⟩)), (by (with_reducible repeat (first | refine blk_drewN ?_ _ | refine blk_drew ?_ | refine blk_alloc ?_ _)); exact BK284.out), (by (with_reducible repeat (first | refine blk_drewN ?_ _ | refine blk_drew ?_ | refine blk_alloc ?_ _)); exact BK285.out), (by (with_reducible repeat (first | refine blk_drewN ?_ _ | refine blk_drew ?_ | refine blk_alloc ?_ _)); exact BK295.out), (by (with_reducible repeat (first | refine blk_drewN ?_ _ | refine blk_drew ?_ | refine blk_alloc ?_ _)); exact BK304.out), (by (with_reducible repeat (first | refine blk_drewN ?_ _ | refine blk_drew ?_ | refine blk_alloc ?_ _)); exact BK313.out), (by (with_reducible repeat (first | refine blk_drewN ?_ _ | refine blk_drew ?_ | refine blk_alloc ?_ _)); exact BK322.out), (by repeat (first | (with_reducible first | exact HB.out | apply below_alloc | apply pw_below_drewN | apply below_drew1 | refine below_set ?_ GE284.out | refine below_set ?_ GE285.out | refine below_set ?_ GE295.out | refine below_set ?_ GE304.out | refine below_set ?_ GE313.out | refine below_set ?_ GE322.out) | exact HB.out))⟩)
            rintro v331 w113 ⟨hS_, h0_, h1_, h2_, h3_, h4_, h5_, h6_, h7_, h8_, h9_, h10_, h11_, h12_⟩
            have n0_ : Aside0 (Kd.R (Kd.int .u8) 5 w113 w.heap.size (fun k_ => some k_ ≠ (v331 : Value).ownBlock ∧ some k_ ≠ (.slice Ao29 t291.length co29 : Value).ownBlock ∧ some k_ ≠ (.slice Ao37 t300.length co37 : Value).ownBlock ∧ some k_ ≠ (.slice Ao47 t309.length co47 : Value).ownBlock ∧ some k_ ≠ (.slice Ao58 t318.length co58 : Value).ownBlock) v328 t327) := ⟨h0_⟩
            have n1_ : Aside0 (Kd.R (Kd.int .u8) 5 w113 w.heap.size (fun k_ => some k_ ≠ (v328 : Value).ownBlock ∧ some k_ ≠ (.slice Ao29 t291.length co29 : Value).ownBlock ∧ some k_ ≠ (.slice Ao37 t300.length co37 : Value).ownBlock ∧ some k_ ≠ (.slice Ao47 t309.length co47 : Value).ownBlock ∧ some k_ ≠ (.slice Ao58 t318.length co58 : Value).ownBlock) v331 t330) := ⟨h1_⟩
            have n2_ : Aside0 (Kd.R (Kd.int .u8) 5 w113 w.heap.size (fun k_ => some k_ ≠ (v328 : Value).ownBlock ∧ some k_ ≠ (v331 : Value).ownBlock ∧ some k_ ≠ (.slice Ao37 t300.length co37 : Value).ownBlock ∧ some k_ ≠ (.slice Ao47 t309.length co47 : Value).ownBlock ∧ some k_ ≠ (.slice Ao58 t318.length co58 : Value).ownBlock) (.slice Ao29 t291.length co29) t291) := ⟨h2_⟩
            have n3_ : Aside0 (Kd.R (Kd.int .u8) 5 w113 w.heap.size (fun k_ => some k_ ≠ (v328 : Value).ownBlock ∧ some k_ ≠ (v331 : Value).ownBlock ∧ some k_ ≠ (.slice Ao29 t291.length co29 : Value).ownBlock ∧ some k_ ≠ (.slice Ao47 t309.length co47 : Value).ownBlock ∧ some k_ ≠ (.slice Ao58 t318.length co58 : Value).ownBlock) (.slice Ao37 t300.length co37) t300) := ⟨h3_⟩
            have n4_ : Aside0 (Kd.R (Kd.int .u8) 5 w113 w.heap.size (fun k_ => some k_ ≠ (v328 : Value).ownBlock ∧ some k_ ≠ (v331 : Value).ownBlock ∧ some k_ ≠ (.slice Ao29 t291.length co29 : Value).ownBlock ∧ some k_ ≠ (.slice Ao37 t300.length co37 : Value).ownBlock ∧ some k_ ≠ (.slice Ao58 t318.length co58 : Value).ownBlock) (.slice Ao47 t309.length co47) t309) := ⟨h4_⟩
            have n5_ : Aside0 (Kd.R (Kd.int .u8) 5 w113 w.heap.size (fun k_ => some k_ ≠ (v328 : Value).ownBlock ∧ some k_ ≠ (v331 : Value).ownBlock ∧ some k_ ≠ (.slice Ao29 t291.length co29 : Value).ownBlock ∧ some k_ ≠ (.slice Ao37 t300.length co37 : Value).ownBlock ∧ some k_ ≠ (.slice Ao47 t309.length co47 : Value).ownBlock) (.slice Ao58 t318.length co58) t318) := ⟨h5_⟩
            have n6_ : Aside0 (w113.heap[gb284]? = some (.cells #[.int .i64 a0_0, .int .i64 a0_1, .int .i64 a0_2, .int .i64 a0_3, .slice A0_4 l0_4.length c0_4] 46 (0, 0))) := ⟨h6_⟩
            have n7_ : Aside0 (w113.heap[gb285]? = some (.cells #[.int .i64 a1_0, .int .i64 a1_1, .int .i64 a1_2, .int .i64 a1_3, .slice A1_4 l1_4.length c1_4] 46 (0, 0))) := ⟨h7_⟩
            have n8_ : Aside0 (w113.heap[gb295]? = some (.cells #[.int .i64 t287, .int .i64 t288, .int .i64 t289, .int .i64 t290, .slice Ao29 t291.length co29] 46 (0, 0))) := ⟨h8_⟩
            have n9_ : Aside0 (w113.heap[gb304]? = some (.cells #[.int .i64 t296, .int .i64 t297, .int .i64 t298, .int .i64 t299, .slice Ao37 t300.length co37] 46 (0, 0))) := ⟨h9_⟩
            have n10_ : Aside0 (w113.heap[gb313]? = some (.cells #[.int .i64 t305, .int .i64 t306, .int .i64 t307, .int .i64 t308, .slice Ao47 t309.length co47] 46 (0, 0))) := ⟨h10_⟩
            have n11_ : Aside0 (w113.heap[gb322]? = some (.cells #[.int .i64 t314, .int .i64 t315, .int .i64 t316, .int .i64 t317, .slice Ao58 t318.length co58] 46 (0, 0))) := ⟨h11_⟩
            have n12_ : Aside0 (Below w.heap.size w w113) := ⟨h12_⟩
            clear HO_296004
            clear HO_305004
            clear HO_314004
            clear HO_323004
            clear BK284
            clear BK285
            clear BK295
            clear BK304
            clear BK313
            clear BK322
            clear HB
            clear h0_ h1_ h2_ h3_ h4_ h5_ h6_ h7_ h8_ h9_ h10_ h11_ h12_
            have HO329 := n0_
            have HO332 := n1_
            have HO_296004 := n2_
            have HO_305004 := n3_
            have HO_314004 := n4_
            have HO_323004 := n5_
            have BK284 := n6_
            have BK285 := n7_
            have BK295 := n8_
            have BK304 := n9_
            have BK313 := n10_
            have BK322 := n11_
            have HB := n12_
            clear n0_ n1_ n2_ n3_ n4_ n5_ n6_ n7_ n8_ n9_ n10_ n11_ n12_
            have hHeld : w113.cell? ⟨gb284, 0, none⟩ = some (.int .i64 a0_0) ∧ w113.cell? ⟨gb284, 1, none⟩ = some (.int .i64 a0_1) ∧ w113.cell? ⟨gb284, 2, none⟩ = some (.int .i64 a0_2) ∧ w113.cell? ⟨gb284, 3, none⟩ = some (.int .i64 a0_3) ∧ w113.cell? ⟨gb284, 4, none⟩ = some (.slice A0_4 l0_4.length c0_4) ∧ w113.cell? ⟨gb285, 0, none⟩ = some (.int .i64 a1_0) ∧ w113.cell? ⟨gb285, 1, none⟩ = some (.int .i64 a1_1) ∧ w113.cell? ⟨gb285, 2, none⟩ = some (.int .i64 a1_2) ∧ w113.cell? ⟨gb285, 3, none⟩ = some (.int .i64 a1_3) ∧ w113.cell? ⟨gb285, 4, none⟩ = some (.slice A1_4 l1_4.length c1_4) := hS_
            refine norm_ (a' := ?_) ?_ ?_
            rotate_left
            ·simp only [putAll, Act.put, Kx.sb, Kx.sz, Kx.ss]
             rfl
            refine Cz.qP 15 80 HT_ ?_
            refine Cz.qP 16 81 HT_ ?_
            refine Cz.qP 17 82 HT_ ?_
            refine Cz.qP 18 83 HT_ ?_
            refine Cz.qP 19 84 HT_ ?_
            refine Cz.qP 20 85 HT_ ?_
            refine Cz.qP 21 86 HT_ ?_
            refine Cz.qP 22 87 HT_ ?_
            refine Cz.qP 23 88 HT_ ?_
            refine Cz.qP 24 89 HT_ ?_
            refine Cz.qP 25 90 HT_ ?_
            refine Cz.qT 26 91 HT_ HW_ hHeld ?_
            refine Cz.qT 27 92 HT_ HW_ hHeld ?_
            refine Cz.qT 29 94 HT_ HW_ hHeld ?_
            refine Cz.qT 30 95 HT_ HW_ hHeld ?_
            refine Cz.qO (N := some 93) 28 HT_ (fun K hK => ?_)
            refine Cz.gO Try.func42 #[.agg #[.int .i64 a0_0, .int .i64 a0_1, .int .i64 a0_2, .int .i64 a0_3, .slice A0_4 l0_4.length c0_4], .agg #[.int .i64 a1_0, .int .i64 a1_1, .int .i64 a1_2, .int .i64 a1_3, .slice A1_4 l1_4.length c1_4]] ?_
            with_reducible refine (extent_Joins.calls a0_0 a0_1 a0_2 a0_3 _ _ l0_4 a1_0 a1_1 a1_2 a1_3 _ _ l1_4 t333 _ ?side1 ?side2 ?side3 ?side4 A103.out).mono ?_
            (case side1 => exact Cz.cb HR0_4)
            (case side2 => exact HC0_4.out)
            (case side3 => exact Cz.cb HR1_4)
            (case side4 => exact HC1_4.out)
            rintro e w114 ⟨rfl, hb⟩
            refine ⟨_, rfl, ?_⟩
            have n0_ := Cz.rb HO_296004 hb
            have n1_ := Cz.rb HO_305004 hb
            have n2_ := Cz.rb HO_314004 hb
            have n3_ := Cz.rb HO_323004 hb
            have n4_ := Cz.rb HO329 hb
            have n5_ := Cz.rb HO332 hb
            have n6_ := Cz.bk BK284 hb
            have n7_ := Cz.bk BK285 hb
            have n8_ := Cz.bk BK295 hb
            have n9_ := Cz.bk BK304 hb
            have n10_ := Cz.bk BK313 hb
            have n11_ := Cz.bk BK322 hb
            have n12_ := Cz.bs (w := w) hb
            clear HO_296004
            clear HO_305004
            clear HO_314004
            clear HO_323004
            clear HO329
            clear HO332
            clear BK284
            clear BK285
            clear BK295
            clear BK304
            clear BK313
            clear BK322
            clear HB
            have HO_296004 := n0_
            have HO_305004 := n1_
            have HO_314004 := n2_
            have HO_323004 := n3_
            have HO329 := n4_
            have HO332 := n5_
            have BK284 := n6_
            have BK285 := n7_
            have BK295 := n8_
            have BK304 := n9_
            have BK313 := n10_
            have BK322 := n11_
            have HB := n12_
            clear n0_ n1_ n2_ n3_ n4_ n5_ n6_ n7_ n8_ n9_ n10_ n11_ n12_
            (try clear hb)
            (try clear hb2)
            (try clear hk)
            (try clear hi)
            refine hK.out _ _ ⟨(blk_cell BK284.out 0).trans rfl, (blk_cell BK284.out 1).trans rfl, (blk_cell BK284.out 2).trans rfl, (blk_cell BK284.out 3).trans rfl, (blk_cell BK284.out 4).trans rfl, (blk_cell BK285.out 0).trans rfl, (blk_cell BK285.out 1).trans rfl, (blk_cell BK285.out 2).trans rfl, (blk_cell BK285.out 3).trans rfl, (blk_cell BK285.out 4).trans rfl⟩ (fun hHeld => ?_)
            clear hK K
            refine norm_ (a' := ?_) ?_ ?_
            rotate_left
            ·show Act.put _ (some 93) _ = _
             simp only [Act.put, Kx.sb, Kx.sz, Kx.ss, i64_w, i32_w]
             rfl
            refine Cz.qO (N := some 96) 31 HT_ (fun K hK => ?_)
            refine Cz.gO Try.func43 #[.agg #[.int .i64 a0_0, .int .i64 a0_1, .int .i64 a0_2, .int .i64 a0_3, .slice A0_4 l0_4.length c0_4], .agg #[.int .i64 a1_0, .int .i64 a1_1, .int .i64 a1_2, .int .i64 a1_3, .slice A1_4 l1_4.length c1_4]] ?_
            with_reducible refine (waggonerref07_Joins.calls a0_0 a0_1 a0_2 a0_3 _ _ l0_4 a1_0 a1_1 a1_2 a1_3 _ _ l1_4 t334 _ ?side1 ?side2 ?side3 ?side4 A104.out).mono ?_
            (case side1 => exact Cz.cb HR0_4)
            (case side2 => exact HC0_4.out)
            (case side3 => exact Cz.cb HR1_4)
            (case side4 => exact HC1_4.out)
            rintro e w115 ⟨rfl, hb⟩
            refine ⟨_, rfl, ?_⟩
            have n0_ := Cz.rb HO_296004 hb
            have n1_ := Cz.rb HO_305004 hb
            have n2_ := Cz.rb HO_314004 hb
            have n3_ := Cz.rb HO_323004 hb
            have n4_ := Cz.rb HO329 hb
            have n5_ := Cz.rb HO332 hb
            have n6_ := Cz.bk BK284 hb
            have n7_ := Cz.bk BK285 hb
            have n8_ := Cz.bk BK295 hb
            have n9_ := Cz.bk BK304 hb
            have n10_ := Cz.bk BK313 hb
            have n11_ := Cz.bk BK322 hb
            have n12_ := Cz.bs (w := w) hb
            clear HO_296004
            clear HO_305004
            clear HO_314004
            clear HO_323004
            clear HO329
            clear HO332
            clear BK284
            clear BK285
            clear BK295
            clear BK304
            clear BK313
            clear BK322
            clear HB
            have HO_296004 := n0_
            have HO_305004 := n1_
            have HO_314004 := n2_
            have HO_323004 := n3_
            have HO329 := n4_
            have HO332 := n5_
            have BK284 := n6_
            have BK285 := n7_
            have BK295 := n8_
            have BK304 := n9_
            have BK313 := n10_
            have BK322 := n11_
            have HB := n12_
            clear n0_ n1_ n2_ n3_ n4_ n5_ n6_ n7_ n8_ n9_ n10_ n11_ n12_
            (try clear hb)
            (try clear hb2)
            (try clear hk)
            (try clear hi)
            refine hK.out _ _ ⟨(blk_cell BK284.out 0).trans rfl, (blk_cell BK284.out 1).trans rfl, (blk_cell BK284.out 2).trans rfl, (blk_cell BK284.out 3).trans rfl, (blk_cell BK284.out 4).trans rfl, (blk_cell BK285.out 0).trans rfl, (blk_cell BK285.out 1).trans rfl, (blk_cell BK285.out 2).trans rfl, (blk_cell BK285.out 3).trans rfl, (blk_cell BK285.out 4).trans rfl⟩ (fun hHeld => ?_)
            clear hK K
            refine norm_ (a' := ?_) ?_ ?_
            rotate_left
            ·show Act.put _ (some 96) _ = _
             simp only [Act.put, Kx.sb, Kx.sz, Kx.ss, i64_w, i32_w]
             rfl
            refine Cz.qP 32 97 HT_ ?_
            refine Cz.qP 33 98 HT_ ?_
            refine Cz.qP 34 99 HT_ ?_
            refine Cz.qP 35 100 HT_ ?_
            refine Cz.qP 36 101 HT_ ?_
            refine Cz.qP 37 102 HT_ ?_
            refine Cz.qP 38 103 HT_ ?_
            refine Cz.qP 39 8 HT_ ?_
            refine done_ (done_of HT_.out (by kernel_rfl)) ?_
            try go_wp2
            go_ret
            exact ⟨by first | rfl | (exact congrArg (fun z_ => Ending.returned (Value.bool z_)) HRT.out) | (rw [HRT.out]; done) | (simp [errW_none, errW_some] <;> rfl) | (simp [*, errW_none, errW_some] <;> rfl), by repeat (first | (with_reducible first | exact HB.out | apply below_alloc | apply pw_below_drewN | apply below_drew1 | refine below_set ?_ GE284.out | refine below_set ?_ GE285.out | refine below_set ?_ GE295.out | refine below_set ?_ GE304.out | refine below_set ?_ GE313.out | refine below_set ?_ GE322.out) | exact HB.out)⟩
           ·rw [if_neg c105] at H
            first | exact absurd H (by simp; done) | skip
          ·rw [if_neg c102] at H
           first | exact absurd H (by simp; done) | skip
         ·replace c101 := Bool.eq_false_iff.mpr c101
          subst c101
          have H1 : (some false) = some true := by rw [if_neg (show ¬ (false = true) by decide)] at H <;> exact H
          exact absurd H1 (by simp)
        ·rw [if_neg c100] at H
         first | exact absurd H (by simp; done) | skip
       ·rw [if_neg c97] at H
        first | exact absurd H (by simp; done) | skip
      ·replace c94 := Bool.eq_false_iff.mpr c94
       subst c94
       have H1 : (some false) = some true := by rw [if_neg (show ¬ (false = true) by decide)] at H <;> exact H
       exact absurd H1 (by simp)
end Go.Proofs.Ytcemlfkboifncaa.PF
