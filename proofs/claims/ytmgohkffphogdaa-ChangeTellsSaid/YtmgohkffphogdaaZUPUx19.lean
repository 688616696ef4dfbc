/- Words and walks that this claim names, of those that the kit's print and programs of this workplace have printed. -/
import Derived.Test.YtmgohkffphogdaaZUCz
import Derived.Test.YtmgohkffphogdaaZUPUx15
import Derived.Test.YtmgohkffphogdaaZUPUx18
namespace Go.Proofs.Ytmgohkffphogdaa.PU
open Go.Proofs.Ytmgohkffphogdaa Go.RowKit Go.Proofs.YtmgohkffphogdaaW.PrintWords Go.Proofs.YtmgohkffphogdaaW.PrintLast Go.Proofs.YtmgohkffphogdaaW.PrintMore
attribute [local go_sem] max2_int min2_int max_two min_two max_three min_three max_four min_four
set_option linter.unusedVariables false
set_option linter.unusedSimpArgs false
def extent_Check_p.f (a0_0 : Int) (a0_1 : Int) (a0_2 : Int) (a0_3 : Int) (l0_4 : List Int) : Option (Bool) := (extent_within.f a0_0 0 64).bind fun t113 => (if t113 = true then ((extent_within.f a0_1 1 (wrap64 (64 - a0_0))).bind fun t114 => (if t114 = true then ((extent_within.f a0_2 0 2).bind fun t115 => (if t115 = true then ((extent_within.f a0_3 0 2147483647).bind fun t116 => (if t116 = true then ((extent_data.f a0_0 a0_1 a0_2 a0_3 l0_4).bind fun t117 => (some ((l0_4.length : Int) == t117))) else (some false))) else (some false))) else (some false))) else (some false))
def extent_Check_p.T1 : Bool × List (List Nat × List Nat) := (true, [([], []), ([0], [0]), ([1], [1]), ([2, 2], [2]), ([3], [3]), ([4, 3], [3, 4]), ([3], [3]), ([6, 3], [3, 6]), ([7, 3], [3, 7]), ([5, 8, 3, 3], [3, 5, 8]), ([3, 9], [3, 9]), ([10, 9], [10]), ([11], [11]), ([12, 11], [11, 12]), ([13, 11, 11], [11, 13]), ([11, 14], [11, 14]), ([15, 14], [15]), ([16], [16]), ([17, 16], [16, 17]), ([18, 16, 16], [16, 18]), ([16, 19], [16, 19]), ([20, 19], [20]), ([21], [21]), ([22, 21], [21, 22]), ([23, 21], [21, 23]), ([21], [21]), ([25, 21, 21], [21, 25]), ([24, 26, 21], [21, 24, 26]), ([21, 27], [21, 27]), ([28, 26, 0, 1, 2, 3, 4, 5, 6, 7, 8, 9, 10, 11, 12, 13, 14, 15, 16, 17, 18, 19, 20, 21, 22, 23, 24, 25, 26, 27, 28], [28])])
def extent_Check_p.B1 : List Nat := [0, 1, 3, 7, 15, 31, 15, 79, 207, 511, 1023, 2047, 4095, 8191, 16383, 32767, 65535, 131071, 262143, 524287, 1048575, 2097151, 4194303, 8388607, 16777215, 4194303, 37748735, 134217727, 268435455, 536870911]
theorem extent_Check_p.tab1 : rtab .any (opsOf Try.f36 1) = extent_Check_p.T1 := by kernel_rfl
theorem extent_Check_p.bits1 : waitsOk extent_Check_p.T1.2 extent_Check_p.B1 = true := by kernel_rfl
set_option maxHeartbeats 8000000 in
set_option maxRecDepth 100000 in
theorem extent_Check_p.calls (a0_0 : Int) (a0_1 : Int) (a0_2 : Int) (a0_3 : Int) (A0_4 : Option Addr) (c0_4 : Nat) (l0_4 : List Int) (r : Bool) (w : World) (hr0_4 : Kd.C (Kd.int .u8) w A0_4 l0_4.length l0_4) (hc0_4 : l0_4.length ≤ c0_4) (h : extent_Check_p.f a0_0 a0_1 a0_2 a0_3 l0_4 = some r) :
  Calls Try.prog 36 #[.agg #[.int .i64 a0_0, .int .i64 a0_1, .int .i64 a0_2, .int .i64 a0_3, .slice A0_4 l0_4.length c0_4]] w fun e w' => e = .returned (.bool r) ∧ Below w.heap.size w w' := by
 have hu39 := Try.underlying39
 have HR0_4 := Aside0.mk hr0_4
 have HC0_4 := Aside0.mk hc0_4
 clear hr0_4 hc0_4
 have HB := Aside0.mk (Below.refl w.heap.size w)
 have H : ((extent_within.f a0_0 0 64).bind fun t113 => (if t113 = true then ((extent_within.f a0_1 1 (wrap64 (64 - a0_0))).bind fun t114 => (if t114 = true then ((extent_within.f a0_2 0 2).bind fun t115 => (if t115 = true then ((extent_within.f a0_3 0 2147483647).bind fun t116 => (if t116 = true then ((extent_data.f a0_0 a0_1 a0_2 a0_3 l0_4).bind fun t117 => (some ((l0_4.length : Int) == t117))) else (some false))) else (some false))) else (some false))) else (some false))) = some r := h
 clear h
 replace H := Option.bind_eq_some_iff.mp H
 obtain ⟨t113, A20, H⟩ := H
 (try dsimp only at H)
 have A2 := Aside0.mk A20
 clear A20
 by_cases c3 : t113 = true
 ·subst c3
  rw [if_pos rfl] at H
  replace H := Option.bind_eq_some_iff.mp H
  obtain ⟨t114, A40, H⟩ := H
  (try dsimp only at H)
  have A4 := Aside0.mk A40
  clear A40
  by_cases c5 : t114 = true
  ·subst c5
   rw [if_pos rfl] at H
   replace H := Option.bind_eq_some_iff.mp H
   obtain ⟨t115, A60, H⟩ := H
   (try dsimp only at H)
   have A6 := Aside0.mk A60
   clear A60
   by_cases c7 : t115 = true
   ·subst c7
    rw [if_pos rfl] at H
    replace H := Option.bind_eq_some_iff.mp H
    obtain ⟨t116, A80, H⟩ := H
    (try dsimp only at H)
    have A8 := Aside0.mk A80
    clear A80
    by_cases c9 : t116 = true
    ·subst c9
     rw [if_pos rfl] at H
     replace H := Option.bind_eq_some_iff.mp H
     obtain ⟨t117, A100, H⟩ := H
     (try dsimp only at H)
     have A10 := Aside0.mk A100
     clear A100
     obtain rfl := Option.some.inj H
     go_enter Try.func36, Try.ntmps36
     try go_wp2_with (first | ((with_reducible refine gate_dst (N := 1) rfl ?_); (try (refine gate_guard (by rfl) ?_; dsimp only)); refine Cz.bx (N := 1) #[.int .i64 a0_0, .int .i64 a0_1, .int .i64 a0_2, .int .i64 a0_3, .slice A0_4 l0_4.length c0_4] 39 ?_; intro gb112 hg w11 hbox hb; have BK112 := Aside0.mk (hbox); have GW112 := Aside0.mk ((Cz.gs hg : w.heap.size ≤ gb112)); have GE112 := GW112; replace HB := Cz.bs (w := w) hb; clear hb hbox hg))
     replace BK112 := Aside0.mk (blk_drew BK112.out)
     replace HB := Aside0.mk (below_drew1 HB.out)
     refine start_ (n := 30) (S := fun w' => w'.cell? ⟨gb112, 0, none⟩ = some (.int .i64 a0_0) ∧ w'.cell? ⟨gb112, 1, none⟩ = some (.int .i64 a0_1) ∧ w'.cell? ⟨gb112, 2, none⟩ = some (.int .i64 a0_2) ∧ w'.cell? ⟨gb112, 3, none⟩ = some (.int .i64 a0_3) ∧ w'.cell? ⟨gb112, 4, none⟩ = some (.slice A0_4 l0_4.length c0_4)) (ds := []) #[false, false, false, false, false, false, false, false, false, false, false, false, false, false, false, false, false, false, false, false, false, false, false, false, false, false, false, false, false, false] (by kernel_rfl) rfl rfl ⟨(blk_cell BK112.out 0).trans rfl, (blk_cell BK112.out 1).trans rfl, (blk_cell BK112.out 2).trans rfl, (blk_cell BK112.out 3).trans rfl, (blk_cell BK112.out 4).trans rfl⟩ (fun hHeld => ?_); refine with_tabW extent_Check_p.tab1 extent_Check_p.bits1 (fun HT_ HW_ => ?_)
     generalize w11.drew = w12 at BK112 HB hHeld ⊢
     refine Cz.qP 0 3 HT_ ?_
     refine Cz.qT 1 4 HT_ HW_ hHeld ?_
     refine Cz.qO (N := some 5) 2 HT_ (fun K hK => ?_)
     refine Cz.gO Try.func50 #[.int .i64 a0_0, .int .i64 0, .int .i64 64] ?_
     with_reducible refine (extent_within.calls a0_0 0 64 true _ A2.out).mono ?_
     rintro e w' ⟨rfl, ⟨nd, rfl⟩⟩
     refine ⟨_, rfl, ?_⟩
     refine hK.out _ _ ⟨(blk_cell BK112.out 0).trans rfl, (blk_cell BK112.out 1).trans rfl, (blk_cell BK112.out 2).trans rfl, (blk_cell BK112.out 3).trans rfl, (blk_cell BK112.out 4).trans rfl⟩ (fun hHeld => ?_)
     clear hK K
     refine norm_ (a' := ?_) ?_ ?_
     rotate_left
     ·show Act.put _ (some 5) _ = _
      simp only [Act.put, Kx.sb, Kx.sz, Kx.ss, i64_w, i32_w]
      rfl
     refine Cz.qP 3 6 HT_ ?_
     refine Cz.qP 4 7 HT_ ?_
     refine Cz.qP 6 9 HT_ ?_
     refine Cz.qT 5 8 HT_ HW_ hHeld ?_
     refine Cz.qT 7 10 HT_ HW_ hHeld ?_
     refine Cz.qP 8 11 HT_ ?_
     refine Cz.qO (N := some 12) 9 HT_ (fun K hK => ?_)
     refine Cz.gO Try.func50 #[.int .i64 a0_1, .int .i64 1, .int .i64 (wrap64 (64 - a0_0))] ?_
     with_reducible refine (extent_within.calls a0_1 1 (wrap64 (64 - a0_0)) true _ A4.out).mono ?_
     rintro e w' ⟨rfl, ⟨nd, rfl⟩⟩
     refine ⟨_, rfl, ?_⟩
     refine hK.out _ _ ⟨(blk_cell BK112.out 0).trans rfl, (blk_cell BK112.out 1).trans rfl, (blk_cell BK112.out 2).trans rfl, (blk_cell BK112.out 3).trans rfl, (blk_cell BK112.out 4).trans rfl⟩ (fun hHeld => ?_)
     clear hK K
     refine norm_ (a' := ?_) ?_ ?_
     rotate_left
     ·show Act.put _ (some 12) _ = _
      simp only [Act.put, Kx.sb, Kx.sz, Kx.ss, i64_w, i32_w]
      rfl
     refine Cz.qP 10 13 HT_ ?_
     refine Cz.qP 11 14 HT_ ?_
     refine Cz.qP 12 15 HT_ ?_
     refine Cz.qT 13 16 HT_ HW_ hHeld ?_
     refine Cz.qO (N := some 17) 14 HT_ (fun K hK => ?_)
     refine Cz.gO Try.func50 #[.int .i64 a0_2, .int .i64 0, .int .i64 2] ?_
     with_reducible refine (extent_within.calls a0_2 0 2 true _ A6.out).mono ?_
     rintro e w' ⟨rfl, ⟨nd, rfl⟩⟩
     refine ⟨_, rfl, ?_⟩
     refine hK.out _ _ ⟨(blk_cell BK112.out 0).trans rfl, (blk_cell BK112.out 1).trans rfl, (blk_cell BK112.out 2).trans rfl, (blk_cell BK112.out 3).trans rfl, (blk_cell BK112.out 4).trans rfl⟩ (fun hHeld => ?_)
     clear hK K
     refine norm_ (a' := ?_) ?_ ?_
     rotate_left
     ·show Act.put _ (some 17) _ = _
      simp only [Act.put, Kx.sb, Kx.sz, Kx.ss, i64_w, i32_w]
      rfl
     refine Cz.qP 15 18 HT_ ?_
     refine Cz.qP 16 19 HT_ ?_
     refine Cz.qP 17 20 HT_ ?_
     refine Cz.qT 18 21 HT_ HW_ hHeld ?_
     refine Cz.qO (N := some 22) 19 HT_ (fun K hK => ?_)
     refine Cz.gO Try.func50 #[.int .i64 a0_3, .int .i64 0, .int .i64 2147483647] ?_
     with_reducible refine (extent_within.calls a0_3 0 2147483647 true _ A8.out).mono ?_
     rintro e w' ⟨rfl, ⟨nd, rfl⟩⟩
     refine ⟨_, rfl, ?_⟩
     refine hK.out _ _ ⟨(blk_cell BK112.out 0).trans rfl, (blk_cell BK112.out 1).trans rfl, (blk_cell BK112.out 2).trans rfl, (blk_cell BK112.out 3).trans rfl, (blk_cell BK112.out 4).trans rfl⟩ (fun hHeld => ?_)
     clear hK K
     refine norm_ (a' := ?_) ?_ ?_
     rotate_left
     ·show Act.put _ (some 22) _ = _
      simp only [Act.put, Kx.sb, Kx.sz, Kx.ss, i64_w, i32_w]
      rfl
     refine Cz.qP 20 23 HT_ ?_
     refine Cz.qP 21 24 HT_ ?_
     refine Cz.qP 22 25 HT_ ?_
     refine Cz.qT 23 26 HT_ HW_ hHeld ?_
     refine Cz.qP 24 27 HT_ ?_
     refine Cz.qT 25 28 HT_ HW_ hHeld ?_
     refine Cz.qO (N := some 29) 26 HT_ (fun K hK => ?_)
     refine Cz.gO Try.func42 #[.agg #[.int .i64 a0_0, .int .i64 a0_1, .int .i64 a0_2, .int .i64 a0_3, .slice A0_4 l0_4.length c0_4]] ?_
     with_reducible refine (extent_data.calls a0_0 a0_1 a0_2 a0_3 _ _ l0_4 t117 _ ?side1 ?side2 A10.out).mono ?_
     (case side1 => repeat (first | exact (Kd.C_below HR0_4.out (Cz.bl (w := w))) | (with_reducible refine Kd.C_alloc ?_ _) | (with_reducible refine Kd.C_drewN ?_ _) | (with_reducible refine Kd.C_drew ?_)))
     (case side2 => exact HC0_4.out)
     rintro e w13 ⟨rfl, hb⟩
     refine ⟨_, rfl, ?_⟩
     replace BK112 := Cz.bk BK112 hb
     replace HB := Cz.bs (w := w) hb
     (try clear hb)
     (try clear hb2)
     (try clear hk)
     (try clear hi)
     refine hK.out _ _ ⟨(blk_cell BK112.out 0).trans rfl, (blk_cell BK112.out 1).trans rfl, (blk_cell BK112.out 2).trans rfl, (blk_cell BK112.out 3).trans rfl, (blk_cell BK112.out 4).trans rfl⟩ (fun hHeld => ?_)
     clear hK K
     refine norm_ (a' := ?_) ?_ ?_
     rotate_left
     ·show Act.put _ (some 29) _ = _
      simp only [Act.put, Kx.sb, Kx.sz, Kx.ss, i64_w, i32_w]
      rfl
     refine Cz.qP 27 30 HT_ ?_
     refine Cz.qP 28 31 HT_ ?_
     refine Cz.qP 29 2 HT_ ?_
     refine done_ (done_of HT_.out (by kernel_rfl)) ?_
     try go_wp2
     go_ret
     exact ⟨Cz.er, Cz.bl (w := w)⟩
    ·replace c9 := Bool.eq_false_iff.mpr c9
     subst c9
     rw [if_neg (show ¬ (false = true) by decide)] at H
     obtain rfl := Option.some.inj H
     go_enter Try.func36, Try.ntmps36
     try go_wp2_with (first | ((with_reducible refine gate_dst (N := 1) rfl ?_); (try (refine gate_guard (by rfl) ?_; dsimp only)); refine Cz.bx (N := 1) #[.int .i64 a0_0, .int .i64 a0_1, .int .i64 a0_2, .int .i64 a0_3, .slice A0_4 l0_4.length c0_4] 39 ?_; intro gb112 hg w14 hbox hb; have BK112 := Aside0.mk (hbox); have GW112 := Aside0.mk ((Cz.gs hg : w.heap.size ≤ gb112)); have GE112 := GW112; replace HB := Cz.bs (w := w) hb; clear hb hbox hg))
     replace BK112 := Aside0.mk (blk_drew BK112.out)
     replace HB := Aside0.mk (below_drew1 HB.out)
     refine start_ (n := 30) (S := fun w' => w'.cell? ⟨gb112, 0, none⟩ = some (.int .i64 a0_0) ∧ w'.cell? ⟨gb112, 1, none⟩ = some (.int .i64 a0_1) ∧ w'.cell? ⟨gb112, 2, none⟩ = some (.int .i64 a0_2) ∧ w'.cell? ⟨gb112, 3, none⟩ = some (.int .i64 a0_3) ∧ w'.cell? ⟨gb112, 4, none⟩ = some (.slice A0_4 l0_4.length c0_4)) (ds := []) #[false, false, false, false, false, false, false, false, false, false, false, false, false, false, false, false, false, false, false, false, false, false, false, false, false, false, false, false, false, false] (by kernel_rfl) rfl rfl ⟨(blk_cell BK112.out 0).trans rfl, (blk_cell BK112.out 1).trans rfl, (blk_cell BK112.out 2).trans rfl, (blk_cell BK112.out 3).trans rfl, (blk_cell BK112.out 4).trans rfl⟩ (fun hHeld => ?_); refine with_tabW extent_Check_p.tab1 extent_Check_p.bits1 (fun HT_ HW_ => ?_)
     generalize w14.drew = w15 at BK112 HB hHeld ⊢
     refine Cz.qP 0 3 HT_ ?_
     refine Cz.qT 1 4 HT_ HW_ hHeld ?_
     refine Cz.qO (N := some 5) 2 HT_ (fun K hK => ?_)
     refine Cz.gO Try.func50 #[.int .i64 a0_0, .int .i64 0, .int .i64 64] ?_
     with_reducible refine (extent_within.calls a0_0 0 64 true _ A2.out).mono ?_
     rintro e w' ⟨rfl, ⟨nd, rfl⟩⟩
     refine ⟨_, rfl, ?_⟩
     refine hK.out _ _ ⟨(blk_cell BK112.out 0).trans rfl, (blk_cell BK112.out 1).trans rfl, (blk_cell BK112.out 2).trans rfl, (blk_cell BK112.out 3).trans rfl, (blk_cell BK112.out 4).trans rfl⟩ (fun hHeld => ?_)
     clear hK K
     refine norm_ (a' := ?_) ?_ ?_
     rotate_left
     ·show Act.put _ (some 5) _ = _
      simp only [Act.put, Kx.sb, Kx.sz, Kx.ss, i64_w, i32_w]
      rfl
     refine Cz.qP 3 6 HT_ ?_
     refine Cz.qP 4 7 HT_ ?_
     refine Cz.qP 6 9 HT_ ?_
     refine Cz.qT 5 8 HT_ HW_ hHeld ?_
     refine Cz.qT 7 10 HT_ HW_ hHeld ?_
     refine Cz.qP 8 11 HT_ ?_
     refine Cz.qO (N := some 12) 9 HT_ (fun K hK => ?_)
     refine Cz.gO Try.func50 #[.int .i64 a0_1, .int .i64 1, .int .i64 (wrap64 (64 - a0_0))] ?_
     with_reducible refine (extent_within.calls a0_1 1 (wrap64 (64 - a0_0)) true _ A4.out).mono ?_
     rintro e w' ⟨rfl, ⟨nd, rfl⟩⟩
     refine ⟨_, rfl, ?_⟩
     refine hK.out _ _ ⟨(blk_cell BK112.out 0).trans rfl, (blk_cell BK112.out 1).trans rfl, (blk_cell BK112.out 2).trans rfl, (blk_cell BK112.out 3).trans rfl, (blk_cell BK112.out 4).trans rfl⟩ (fun hHeld => ?_)
     clear hK K
     refine norm_ (a' := ?_) ?_ ?_
     rotate_left
     ·show Act.put _ (some 12) _ = _
      simp only [Act.put, Kx.sb, Kx.sz, Kx.ss, i64_w, i32_w]
      rfl
     refine Cz.qP 10 13 HT_ ?_
     refine Cz.qP 11 14 HT_ ?_
     refine Cz.qP 12 15 HT_ ?_
     refine Cz.qT 13 16 HT_ HW_ hHeld ?_
     refine Cz.qO (N := some 17) 14 HT_ (fun K hK => ?_)
     refine Cz.gO Try.func50 #[.int .i64 a0_2, .int .i64 0, .int .i64 2] ?_
     with_reducible refine (extent_within.calls a0_2 0 2 true _ A6.out).mono ?_
     rintro e w' ⟨rfl, ⟨nd, rfl⟩⟩
     refine ⟨_, rfl, ?_⟩
     refine hK.out _ _ ⟨(blk_cell BK112.out 0).trans rfl, (blk_cell BK112.out 1).trans rfl, (blk_cell BK112.out 2).trans rfl, (blk_cell BK112.out 3).trans rfl, (blk_cell BK112.out 4).trans rfl⟩ (fun hHeld => ?_)
     clear hK K
     refine norm_ (a' := ?_) ?_ ?_
     rotate_left
     ·show Act.put _ (some 17) _ = _
      simp only [Act.put, Kx.sb, Kx.sz, Kx.ss, i64_w, i32_w]
      rfl
     refine Cz.qP 15 18 HT_ ?_
     refine Cz.qP 16 19 HT_ ?_
     refine Cz.qP 17 20 HT_ ?_
     refine Cz.qT 18 21 HT_ HW_ hHeld ?_
     refine Cz.qO (N := some 22) 19 HT_ (fun K hK => ?_)
     refine Cz.gO Try.func50 #[.int .i64 a0_3, .int .i64 0, .int .i64 2147483647] ?_
     with_reducible refine (extent_within.calls a0_3 0 2147483647 false _ A8.out).mono ?_
     rintro e w' ⟨rfl, ⟨nd, rfl⟩⟩
     refine ⟨_, rfl, ?_⟩
     refine hK.out _ _ ⟨(blk_cell BK112.out 0).trans rfl, (blk_cell BK112.out 1).trans rfl, (blk_cell BK112.out 2).trans rfl, (blk_cell BK112.out 3).trans rfl, (blk_cell BK112.out 4).trans rfl⟩ (fun hHeld => ?_)
     clear hK K
     refine norm_ (a' := ?_) ?_ ?_
     rotate_left
     ·show Act.put _ (some 22) _ = _
      simp only [Act.put, Kx.sb, Kx.sz, Kx.ss, i64_w, i32_w]
      rfl
     refine Cz.qP 20 23 HT_ ?_
     refine Cz.qP 21 24 HT_ ?_
     refine Cz.qU 22 25 HT_ ?_
     refine Cz.qU 23 26 HT_ ?_
     refine Cz.qU 24 27 HT_ ?_
     refine Cz.qU 25 28 HT_ ?_
     refine Cz.qU 26 29 HT_ ?_
     refine Cz.qU 27 30 HT_ ?_
     refine Cz.qP 28 31 HT_ ?_
     refine Cz.qP 29 2 HT_ ?_
     refine done_ (done_of HT_.out (by kernel_rfl)) ?_
     try go_wp2
     go_ret
     exact ⟨Cz.er, Cz.bl (w := w)⟩
   ·replace c7 := Bool.eq_false_iff.mpr c7
    subst c7
    rw [if_neg (show ¬ (false = true) by decide)] at H
    obtain rfl := Option.some.inj H
    go_enter Try.func36, Try.ntmps36
    try go_wp2_with (first | ((with_reducible refine gate_dst (N := 1) rfl ?_); (try (refine gate_guard (by rfl) ?_; dsimp only)); refine Cz.bx (N := 1) #[.int .i64 a0_0, .int .i64 a0_1, .int .i64 a0_2, .int .i64 a0_3, .slice A0_4 l0_4.length c0_4] 39 ?_; intro gb112 hg w16 hbox hb; have BK112 := Aside0.mk (hbox); have GW112 := Aside0.mk ((Cz.gs hg : w.heap.size ≤ gb112)); have GE112 := GW112; replace HB := Cz.bs (w := w) hb; clear hb hbox hg))
    replace BK112 := Aside0.mk (blk_drew BK112.out)
    replace HB := Aside0.mk (below_drew1 HB.out)
    refine start_ (n := 30) (S := fun w' => w'.cell? ⟨gb112, 0, none⟩ = some (.int .i64 a0_0) ∧ w'.cell? ⟨gb112, 1, none⟩ = some (.int .i64 a0_1) ∧ w'.cell? ⟨gb112, 2, none⟩ = some (.int .i64 a0_2) ∧ w'.cell? ⟨gb112, 3, none⟩ = some (.int .i64 a0_3) ∧ w'.cell? ⟨gb112, 4, none⟩ = some (.slice A0_4 l0_4.length c0_4)) (ds := []) #[false, false, false, false, false, false, false, false, false, false, false, false, false, false, false, false, false, false, false, false, false, false, false, false, false, false, false, false, false, false] (by kernel_rfl) rfl rfl ⟨(blk_cell BK112.out 0).trans rfl, (blk_cell BK112.out 1).trans rfl, (blk_cell BK112.out 2).trans rfl, (blk_cell BK112.out 3).trans rfl, (blk_cell BK112.out 4).trans rfl⟩ (fun hHeld => ?_); refine with_tabW extent_Check_p.tab1 extent_Check_p.bits1 (fun HT_ HW_ => ?_)
    generalize w16.drew = w17 at BK112 HB hHeld ⊢
    refine Cz.qP 0 3 HT_ ?_
    refine Cz.qT 1 4 HT_ HW_ hHeld ?_
    refine Cz.qO (N := some 5) 2 HT_ (fun K hK => ?_)
    refine Cz.gO Try.func50 #[.int .i64 a0_0, .int .i64 0, .int .i64 64] ?_
    with_reducible refine (extent_within.calls a0_0 0 64 true _ A2.out).mono ?_
    rintro e w' ⟨rfl, ⟨nd, rfl⟩⟩
    refine ⟨_, rfl, ?_⟩
    refine hK.out _ _ ⟨(blk_cell BK112.out 0).trans rfl, (blk_cell BK112.out 1).trans rfl, (blk_cell BK112.out 2).trans rfl, (blk_cell BK112.out 3).trans rfl, (blk_cell BK112.out 4).trans rfl⟩ (fun hHeld => ?_)
    clear hK K
    refine norm_ (a' := ?_) ?_ ?_
    rotate_left
    ·show Act.put _ (some 5) _ = _
     simp only [Act.put, Kx.sb, Kx.sz, Kx.ss, i64_w, i32_w]
     rfl
    refine Cz.qP 3 6 HT_ ?_
    refine Cz.qP 4 7 HT_ ?_
    refine Cz.qP 6 9 HT_ ?_
    refine Cz.qT 5 8 HT_ HW_ hHeld ?_
    refine Cz.qT 7 10 HT_ HW_ hHeld ?_
    refine Cz.qP 8 11 HT_ ?_
    refine Cz.qO (N := some 12) 9 HT_ (fun K hK => ?_)
    refine Cz.gO Try.func50 #[.int .i64 a0_1, .int .i64 1, .int .i64 (wrap64 (64 - a0_0))] ?_
    with_reducible refine (extent_within.calls a0_1 1 (wrap64 (64 - a0_0)) true _ A4.out).mono ?_
    rintro e w' ⟨rfl, ⟨nd, rfl⟩⟩
    refine ⟨_, rfl, ?_⟩
    refine hK.out _ _ ⟨(blk_cell BK112.out 0).trans rfl, (blk_cell BK112.out 1).trans rfl, (blk_cell BK112.out 2).trans rfl, (blk_cell BK112.out 3).trans rfl, (blk_cell BK112.out 4).trans rfl⟩ (fun hHeld => ?_)
    clear hK K
    refine norm_ (a' := ?_) ?_ ?_
    rotate_left
    ·show Act.put _ (some 12) _ = _
     simp only [Act.put, Kx.sb, Kx.sz, Kx.ss, i64_w, i32_w]
     rfl
    refine Cz.qP 10 13 HT_ ?_
    refine Cz.qP 11 14 HT_ ?_
    refine Cz.qP 12 15 HT_ ?_
    refine Cz.qT 13 16 HT_ HW_ hHeld ?_
    refine Cz.qO (N := some 17) 14 HT_ (fun K hK => ?_)
    refine Cz.gO Try.func50 #[.int .i64 a0_2, .int .i64 0, .int .i64 2] ?_
    with_reducible refine (extent_within.calls a0_2 0 2 false _ A6.out).mono ?_
    rintro e w' ⟨rfl, ⟨nd, rfl⟩⟩
    refine ⟨_, rfl, ?_⟩
    refine hK.out _ _ ⟨(blk_cell BK112.out 0).trans rfl, (blk_cell BK112.out 1).trans rfl, (blk_cell BK112.out 2).trans rfl, (blk_cell BK112.out 3).trans rfl, (blk_cell BK112.out 4).trans rfl⟩ (fun hHeld => ?_)
    clear hK K
    refine norm_ (a' := ?_) ?_ ?_
    rotate_left
    ·show Act.put _ (some 17) _ = _
     simp only [Act.put, Kx.sb, Kx.sz, Kx.ss, i64_w, i32_w]
     rfl
    refine Cz.qP 15 18 HT_ ?_
    refine Cz.qP 16 19 HT_ ?_
    refine Cz.qU 17 20 HT_ ?_
    refine Cz.qU 18 21 HT_ ?_
    refine Cz.qU 19 22 HT_ ?_
    refine Cz.qP 20 23 HT_ ?_
    refine Cz.qP 21 24 HT_ ?_
    refine Cz.qU 22 25 HT_ ?_
    refine Cz.qU 23 26 HT_ ?_
    refine Cz.qU 24 27 HT_ ?_
    refine Cz.qU 25 28 HT_ ?_
    refine Cz.qU 26 29 HT_ ?_
    refine Cz.qU 27 30 HT_ ?_
    refine Cz.qP 28 31 HT_ ?_
    refine Cz.qP 29 2 HT_ ?_
    refine done_ (done_of HT_.out (by kernel_rfl)) ?_
    try go_wp2
    go_ret
    exact ⟨Cz.er, Cz.bl (w := w)⟩
  ·replace c5 := Bool.eq_false_iff.mpr c5
   subst c5
   rw [if_neg (show ¬ (false = true) by decide)] at H
   obtain rfl := Option.some.inj H
   go_enter Try.func36, Try.ntmps36
   try go_wp2_with (first | ((with_reducible refine gate_dst (N := 1) rfl ?_); (try (refine gate_guard (by rfl) ?_; dsimp only)); refine Cz.bx (N := 1) #[.int .i64 a0_0, .int .i64 a0_1, .int .i64 a0_2, .int .i64 a0_3, .slice A0_4 l0_4.length c0_4] 39 ?_; intro gb112 hg w18 hbox hb; have BK112 := Aside0.mk (hbox); have GW112 := Aside0.mk ((Cz.gs hg : w.heap.size ≤ gb112)); have GE112 := GW112; replace HB := Cz.bs (w := w) hb; clear hb hbox hg))
   replace BK112 := Aside0.mk (blk_drew BK112.out)
   replace HB := Aside0.mk (below_drew1 HB.out)
   refine start_ (n := 30) (S := fun w' => w'.cell? ⟨gb112, 0, none⟩ = some (.int .i64 a0_0) ∧ w'.cell? ⟨gb112, 1, none⟩ = some (.int .i64 a0_1) ∧ w'.cell? ⟨gb112, 2, none⟩ = some (.int .i64 a0_2) ∧ w'.cell? ⟨gb112, 3, none⟩ = some (.int .i64 a0_3) ∧ w'.cell? ⟨gb112, 4, none⟩ = some (.slice A0_4 l0_4.length c0_4)) (ds := []) #[false, false, false, false, false, false, false, false, false, false, false, false, false, false, false, false, false, false, false, false, false, false, false, false, false, false, false, false, false, false] (by kernel_rfl) rfl rfl ⟨(blk_cell BK112.out 0).trans rfl, (blk_cell BK112.out 1).trans rfl, (blk_cell BK112.out 2).trans rfl, (blk_cell BK112.out 3).trans rfl, (blk_cell BK112.out 4).trans rfl⟩ (fun hHeld => ?_); refine with_tabW extent_Check_p.tab1 extent_Check_p.bits1 (fun HT_ HW_ => ?_)
   generalize w18.drew = w19 at BK112 HB hHeld ⊢
   refine Cz.qP 0 3 HT_ ?_
   refine Cz.qT 1 4 HT_ HW_ hHeld ?_
   refine Cz.qO (N := some 5) 2 HT_ (fun K hK => ?_)
   refine Cz.gO Try.func50 #[.int .i64 a0_0, .int .i64 0, .int .i64 64] ?_
   with_reducible refine (extent_within.calls a0_0 0 64 true _ A2.out).mono ?_
   rintro e w' ⟨rfl, ⟨nd, rfl⟩⟩
   refine ⟨_, rfl, ?_⟩
   refine hK.out _ _ ⟨(blk_cell BK112.out 0).trans rfl, (blk_cell BK112.out 1).trans rfl, (blk_cell BK112.out 2).trans rfl, (blk_cell BK112.out 3).trans rfl, (blk_cell BK112.out 4).trans rfl⟩ (fun hHeld => ?_)
   clear hK K
   refine norm_ (a' := ?_) ?_ ?_
   rotate_left
   ·show Act.put _ (some 5) _ = _
    simp only [Act.put, Kx.sb, Kx.sz, Kx.ss, i64_w, i32_w]
    rfl
   refine Cz.qP 3 6 HT_ ?_
   refine Cz.qP 4 7 HT_ ?_
   refine Cz.qP 6 9 HT_ ?_
   refine Cz.qT 5 8 HT_ HW_ hHeld ?_
   refine Cz.qT 7 10 HT_ HW_ hHeld ?_
   refine Cz.qP 8 11 HT_ ?_
   refine Cz.qO (N := some 12) 9 HT_ (fun K hK => ?_)
   refine Cz.gO Try.func50 #[.int .i64 a0_1, .int .i64 1, .int .i64 (wrap64 (64 - a0_0))] ?_
   with_reducible refine (extent_within.calls a0_1 1 (wrap64 (64 - a0_0)) false _ A4.out).mono ?_
   rintro e w' ⟨rfl, ⟨nd, rfl⟩⟩
   refine ⟨_, rfl, ?_⟩
   refine hK.out _ _ ⟨(blk_cell BK112.out 0).trans rfl, (blk_cell BK112.out 1).trans rfl, (blk_cell BK112.out 2).trans rfl, (blk_cell BK112.out 3).trans rfl, (blk_cell BK112.out 4).trans rfl⟩ (fun hHeld => ?_)
   clear hK K
   refine norm_ (a' := ?_) ?_ ?_
   rotate_left
   ·show Act.put _ (some 12) _ = _
    simp only [Act.put, Kx.sb, Kx.sz, Kx.ss, i64_w, i32_w]
    rfl
   refine Cz.qP 10 13 HT_ ?_
   refine Cz.qP 11 14 HT_ ?_
   refine Cz.qU 12 15 HT_ ?_
   refine Cz.qU 13 16 HT_ ?_
   refine Cz.qU 14 17 HT_ ?_
   refine Cz.qP 15 18 HT_ ?_
   refine Cz.qP 16 19 HT_ ?_
   refine Cz.qU 17 20 HT_ ?_
   refine Cz.qU 18 21 HT_ ?_
   refine Cz.qU 19 22 HT_ ?_
   refine Cz.qP 20 23 HT_ ?_
   refine Cz.qP 21 24 HT_ ?_
   refine Cz.qU 22 25 HT_ ?_
   refine Cz.qU 23 26 HT_ ?_
   refine Cz.qU 24 27 HT_ ?_
   refine Cz.qU 25 28 HT_ ?_
   refine Cz.qU 26 29 HT_ ?_
   refine Cz.qU 27 30 HT_ ?_
   refine Cz.qP 28 31 HT_ ?_
   refine Cz.qP 29 2 HT_ ?_
   refine done_ (done_of HT_.out (by kernel_rfl)) ?_
   try go_wp2
   go_ret
   exact ⟨Cz.er, Cz.bl (w := w)⟩
 ·replace c3 := Bool.eq_false_iff.mpr c3
  subst c3
  rw [if_neg (show ¬ (false = true) by decide)] at H
  obtain rfl := Option.some.inj H
  go_enter Try.func36, Try.ntmps36
  try go_wp2_with (first | ((with_reducible refine gate_dst (N := 1) rfl ?_); (try (refine gate_guard (by rfl) ?_; dsimp only)); refine Cz.bx (N := 1) #[.int .i64 a0_0, .int .i64 a0_1, .int .i64 a0_2, .int .i64 a0_3, .slice A0_4 l0_4.length c0_4] 39 ?_; intro gb112 hg w20 hbox hb; have BK112 := Aside0.mk (hbox); have GW112 := Aside0.mk ((Cz.gs hg : w.heap.size ≤ gb112)); have GE112 := GW112; replace HB := Cz.bs (w := w) hb; clear hb hbox hg))
  replace BK112 := Aside0.mk (blk_drew BK112.out)
  replace HB := Aside0.mk (below_drew1 HB.out)
  refine start_ (n := 30) (S := fun w' => w'.cell? ⟨gb112, 0, none⟩ = some (.int .i64 a0_0) ∧ w'.cell? ⟨gb112, 1, none⟩ = some (.int .i64 a0_1) ∧ w'.cell? ⟨gb112, 2, none⟩ = some (.int .i64 a0_2) ∧ w'.cell? ⟨gb112, 3, none⟩ = some (.int .i64 a0_3) ∧ w'.cell? ⟨gb112, 4, none⟩ = some (.slice A0_4 l0_4.length c0_4)) (ds := []) #[false, false, false, false, false, false, false, false, false, false, false, false, false, false, false, false, false, false, false, false, false, false, false, false, false, false, false, false, false, false] (by kernel_rfl) rfl rfl ⟨(blk_cell BK112.out 0).trans rfl, (blk_cell BK112.out 1).trans rfl, (blk_cell BK112.out 2).trans rfl, (blk_cell BK112.out 3).trans rfl, (blk_cell BK112.out 4).trans rfl⟩ (fun hHeld => ?_); refine with_tabW extent_Check_p.tab1 extent_Check_p.bits1 (fun HT_ HW_ => ?_)
  generalize w20.drew = w21 at BK112 HB hHeld ⊢
  refine Cz.qP 0 3 HT_ ?_
  refine Cz.qT 1 4 HT_ HW_ hHeld ?_
  refine Cz.qO (N := some 5) 2 HT_ (fun K hK => ?_)
  refine Cz.gO Try.func50 #[.int .i64 a0_0, .int .i64 0, .int .i64 64] ?_
  with_reducible refine (extent_within.calls a0_0 0 64 false _ A2.out).mono ?_
  rintro e w' ⟨rfl, ⟨nd, rfl⟩⟩
  refine ⟨_, rfl, ?_⟩
  refine hK.out _ _ ⟨(blk_cell BK112.out 0).trans rfl, (blk_cell BK112.out 1).trans rfl, (blk_cell BK112.out 2).trans rfl, (blk_cell BK112.out 3).trans rfl, (blk_cell BK112.out 4).trans rfl⟩ (fun hHeld => ?_)
  clear hK K
  refine norm_ (a' := ?_) ?_ ?_
  rotate_left
  ·show Act.put _ (some 5) _ = _
   simp only [Act.put, Kx.sb, Kx.sz, Kx.ss, i64_w, i32_w]
   rfl
  refine Cz.qP 3 6 HT_ ?_
  refine Cz.qU 4 7 HT_ ?_
  refine Cz.qU 5 8 HT_ ?_
  refine Cz.qU 6 9 HT_ ?_
  refine Cz.qU 7 10 HT_ ?_
  refine Cz.qU 8 11 HT_ ?_
  refine Cz.qU 9 12 HT_ ?_
  refine Cz.qP 10 13 HT_ ?_
  refine Cz.qP 11 14 HT_ ?_
  refine Cz.qU 12 15 HT_ ?_
  refine Cz.qU 13 16 HT_ ?_
  refine Cz.qU 14 17 HT_ ?_
  refine Cz.qP 15 18 HT_ ?_
  refine Cz.qP 16 19 HT_ ?_
  refine Cz.qU 17 20 HT_ ?_
  refine Cz.qU 18 21 HT_ ?_
  refine Cz.qU 19 22 HT_ ?_
  refine Cz.qP 20 23 HT_ ?_
  refine Cz.qP 21 24 HT_ ?_
  refine Cz.qU 22 25 HT_ ?_
  refine Cz.qU 23 26 HT_ ?_
  refine Cz.qU 24 27 HT_ ?_
  refine Cz.qU 25 28 HT_ ?_
  refine Cz.qU 26 29 HT_ ?_
  refine Cz.qU 27 30 HT_ ?_
  refine Cz.qP 28 31 HT_ ?_
  refine Cz.qP 29 2 HT_ ?_
  refine done_ (done_of HT_.out (by kernel_rfl)) ?_
  try go_wp2
  go_ret
  exact ⟨Cz.er, Cz.bl (w := w)⟩
end Go.Proofs.Ytmgohkffphogdaa.PU
