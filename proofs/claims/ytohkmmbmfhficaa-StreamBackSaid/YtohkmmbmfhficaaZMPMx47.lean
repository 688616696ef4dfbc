/- Words and walks that this claim names, of those that the kit's print and programs of this workplace have printed. -/
import Derived.Test.YtohkmmbmfhficaaZMCz
import Derived.Test.YtohkmmbmfhficaaZMPMx5
namespace Go.Proofs.Ytohkmmbmfhficaa.PM
open Go.Proofs.Ytohkmmbmfhficaa Go.RowKit Go.Proofs.YtohkmmbmfhficaaW.PrintWords Go.Proofs.YtohkmmbmfhficaaW.PrintLast Go.Proofs.YtohkmmbmfhficaaW.PrintMore
attribute [local go_sem] max2_int min2_int max_two min_two max_three min_three max_four min_four
set_option linter.unusedVariables false
set_option linter.unusedSimpArgs false
def extent_Joins_p.f (a0_0 : Int) (a0_1 : Int) (a0_2 : Int) (a0_3 : Int) (l0_4 : List Int) (a1_0 : Int) (a1_1 : Int) (a1_2 : Int) (a1_3 : Int) (l1_4 : List Int) : Option (Bool) := (extent_Check.f a0_0 a0_1 a0_2 a0_3 l0_4).bind fun t203 => (if t203 = true then ((extent_Check.f a1_0 a1_1 a1_2 a1_3 l1_4).bind fun t204 => (if t204 = true then (if (wrap64 (a0_0 + a0_1)) = a1_0 then (if a0_2 = a1_2 then (some (a0_3 == a1_3)) else (some false)) else (some false)) else (some false))) else (some false))
set_option maxHeartbeats 8000000 in
set_option maxRecDepth 100000 in
theorem extent_Joins_p.calls (a0_0 : Int) (a0_1 : Int) (a0_2 : Int) (a0_3 : Int) (A0_4 : Option Addr) (c0_4 : Nat) (l0_4 : List Int) (a1_0 : Int) (a1_1 : Int) (a1_2 : Int) (a1_3 : Int) (A1_4 : Option Addr) (c1_4 : Nat) (l1_4 : List Int) (r : Bool) (w : World) (hr0_4 : Kd.C (Kd.int .u8) w A0_4 l0_4.length l0_4) (hc0_4 : l0_4.length ≤ c0_4) (hr1_4 : Kd.C (Kd.int .u8) w A1_4 l1_4.length l1_4) (hc1_4 : l1_4.length ≤ c1_4) (h : extent_Joins_p.f a0_0 a0_1 a0_2 a0_3 l0_4 a1_0 a1_1 a1_2 a1_3 l1_4 = some r) :
  Calls Try.prog 56 #[.agg #[.int .i64 a0_0, .int .i64 a0_1, .int .i64 a0_2, .int .i64 a0_3, .slice A0_4 l0_4.length c0_4], .agg #[.int .i64 a1_0, .int .i64 a1_1, .int .i64 a1_2, .int .i64 a1_3, .slice A1_4 l1_4.length c1_4]] w fun e w' => e = .returned (.bool r) ∧ Below w.heap.size w w' := by
 have hu36 := Try.underlying36
 have HR0_4 := Aside0.mk hr0_4
 have HC0_4 := Aside0.mk hc0_4
 clear hr0_4 hc0_4
 have HR1_4 := Aside0.mk hr1_4
 have HC1_4 := Aside0.mk hc1_4
 clear hr1_4 hc1_4
 have HB := Aside0.mk (Below.refl w.heap.size w)
 have H : ((extent_Check.f a0_0 a0_1 a0_2 a0_3 l0_4).bind fun t203 => (if t203 = true then ((extent_Check.f a1_0 a1_1 a1_2 a1_3 l1_4).bind fun t204 => (if t204 = true then (if (wrap64 (a0_0 + a0_1)) = a1_0 then (if a0_2 = a1_2 then (some (a0_3 == a1_3)) else (some false)) else (some false)) else (some false))) else (some false))) = some r := h
 clear h
 replace H := Option.bind_eq_some_iff.mp H
 obtain ⟨t203, A30, H⟩ := H
 (try dsimp only at H)
 have A3 := Aside0.mk A30
 clear A30
 by_cases c4 : t203 = true
 ·subst c4
  rw [if_pos rfl] at H
  replace H := Option.bind_eq_some_iff.mp H
  obtain ⟨t204, A50, H⟩ := H
  (try dsimp only at H)
  have A5 := Aside0.mk A50
  clear A50
  by_cases c6 : t204 = true
  ·subst c6
   rw [if_pos rfl] at H
   by_cases c7 : (wrap64 (a0_0 + a0_1)) = a1_0
   ·rw [if_pos c7] at H
    have c7b0 : ((wrap64 (a0_0 + a0_1)) == a1_0) = true := beq_iff_eq.mpr c7
    have c7b1 : ((wrap64 (a0_0 + a0_1)) != a1_0) = false := bne_eq_false_iff_eq.mpr c7
    clear c7
    by_cases c8 : a0_2 = a1_2
    ·rw [if_pos c8] at H
     have c8b0 : (a0_2 == a1_2) = true := beq_iff_eq.mpr c8
     have c8b1 : (a0_2 != a1_2) = false := bne_eq_false_iff_eq.mpr c8
     clear c8
     obtain rfl := Option.some.inj H
     go_enter Try.func56, Try.ntmps56
     go_wp2_with (first | ((with_reducible refine gate_dst (N := 2) rfl ?_); refine Cz.bx (N := 2) #[.int .i64 a0_0, .int .i64 a0_1, .int .i64 a0_2, .int .i64 a0_3, .slice A0_4 l0_4.length c0_4] 36 ?_; intro gb201 hg w9 hbox hb; have BK201 := Aside0.mk (hbox); have GW201 := Aside0.mk ((Cz.gs hg : w.heap.size ≤ gb201)); have GE201 := GW201; replace HB := Cz.bs (w := w) hb; clear hb hbox hg) | ((with_reducible refine gate_dst (N := 3) rfl ?_); refine Cz.bx (N := 3) #[.int .i64 a1_0, .int .i64 a1_1, .int .i64 a1_2, .int .i64 a1_3, .slice A1_4 l1_4.length c1_4] 36 ?_; intro gb202 hg w10 hbox hb; have BK202 := Aside0.mk (hbox); have GW202 := Aside0.mk ((Cz.gs hg : w.heap.size ≤ gb202)); have GE202 := GW202; have NB201_202 := Aside0.mk ((Cz.nl BK201 hg : gb201 ≠ gb202)); have NB202_201 := Aside0.mk ((Cz.nr BK201 hg : gb202 ≠ gb201)); replace BK201 := Cz.bk BK201 hb; replace HB := Cz.bs (w := w) hb; clear hb hbox hg; have hnb11 := NB201_202.out; have hnc11 := NB202_201.out; obtain ⟨z12_0, z12_1, z12_2, z12_3, z12_4, y12_0, y12_1, y12_2, y12_3, y12_4⟩ := Cz.d5 BK201) | ((with_reducible refine gate_callee (f := 55) rfl ?_); refine Cz.gL (N := (some 6)) Try.func55 #[.agg #[.int .i64 a0_0, .int .i64 a0_1, .int .i64 a0_2, .int .i64 a0_3, .slice A0_4 l0_4.length c0_4]] ?_; (with_reducible refine (extent_Check.calls a0_0 a0_1 a0_2 a0_3 _ _ l0_4 true _ ?side1 ?side2 A3.out).mono ?_); (case side1 => exact Cz.cb HR0_4); (case side2 => exact HC0_4.out); rintro e w13 ⟨rfl, hb⟩; refine ⟨_, rfl, ?_⟩; replace BK201 := Cz.bk BK201 hb; replace BK202 := Cz.bk BK202 hb; replace HB := Cz.bs (w := w) hb; (try clear hb); obtain ⟨z14_0, z14_1, z14_2, z14_3, z14_4, y14_0, y14_1, y14_2, y14_3, y14_4⟩ := Cz.d5 BK202) | (go_at_call 55; (with_reducible refine (extent_Check.calls a1_0 a1_1 a1_2 a1_3 _ _ l1_4 true _ ?side1 ?side2 A5.out).mono ?_); (case side1 => exact Cz.cb HR1_4); (case side2 => exact HC1_4.out); rintro e w15 ⟨rfl, hb⟩; replace BK201 := Cz.bk BK201 hb; replace BK202 := Cz.bk BK202 hb; replace HB := Cz.bs (w := w) hb; (try clear hb); obtain ⟨z16_0, z16_1, z16_2, z16_3, z16_4, y16_0, y16_1, y16_2, y16_3, y16_4⟩ := Cz.d5 BK201; obtain ⟨z17_0, z17_1, z17_2, z17_3, z17_4, y17_0, y17_1, y17_2, y17_3, y17_4⟩ := Cz.d5 BK202))
     go_ret
     exact ⟨Cz.er, Cz.bl (w := w)⟩
    ·rw [if_neg c8] at H
     have c8b0 : (a0_2 == a1_2) = false := beq_eq_false_iff_ne.mpr c8
     have c8b1 : (a0_2 != a1_2) = true := bne_iff_ne.mpr c8
     obtain rfl := Option.some.inj H
     go_enter Try.func56, Try.ntmps56
     go_wp2_with (first | ((with_reducible refine gate_dst (N := 2) rfl ?_); refine Cz.bx (N := 2) #[.int .i64 a0_0, .int .i64 a0_1, .int .i64 a0_2, .int .i64 a0_3, .slice A0_4 l0_4.length c0_4] 36 ?_; intro gb201 hg w18 hbox hb; have BK201 := Aside0.mk (hbox); have GW201 := Aside0.mk ((Cz.gs hg : w.heap.size ≤ gb201)); have GE201 := GW201; replace HB := Cz.bs (w := w) hb; clear hb hbox hg) | ((with_reducible refine gate_dst (N := 3) rfl ?_); refine Cz.bx (N := 3) #[.int .i64 a1_0, .int .i64 a1_1, .int .i64 a1_2, .int .i64 a1_3, .slice A1_4 l1_4.length c1_4] 36 ?_; intro gb202 hg w19 hbox hb; have BK202 := Aside0.mk (hbox); have GW202 := Aside0.mk ((Cz.gs hg : w.heap.size ≤ gb202)); have GE202 := GW202; have NB201_202 := Aside0.mk ((Cz.nl BK201 hg : gb201 ≠ gb202)); have NB202_201 := Aside0.mk ((Cz.nr BK201 hg : gb202 ≠ gb201)); replace BK201 := Cz.bk BK201 hb; replace HB := Cz.bs (w := w) hb; clear hb hbox hg; have hnb20 := NB201_202.out; have hnc20 := NB202_201.out; obtain ⟨z21_0, z21_1, z21_2, z21_3, z21_4, y21_0, y21_1, y21_2, y21_3, y21_4⟩ := Cz.d5 BK201) | ((with_reducible refine gate_callee (f := 55) rfl ?_); refine Cz.gL (N := (some 6)) Try.func55 #[.agg #[.int .i64 a0_0, .int .i64 a0_1, .int .i64 a0_2, .int .i64 a0_3, .slice A0_4 l0_4.length c0_4]] ?_; (with_reducible refine (extent_Check.calls a0_0 a0_1 a0_2 a0_3 _ _ l0_4 true _ ?side1 ?side2 A3.out).mono ?_); (case side1 => exact Cz.cb HR0_4); (case side2 => exact HC0_4.out); rintro e w22 ⟨rfl, hb⟩; refine ⟨_, rfl, ?_⟩; replace BK201 := Cz.bk BK201 hb; replace BK202 := Cz.bk BK202 hb; replace HB := Cz.bs (w := w) hb; (try clear hb); obtain ⟨z23_0, z23_1, z23_2, z23_3, z23_4, y23_0, y23_1, y23_2, y23_3, y23_4⟩ := Cz.d5 BK202) | (go_at_call 55; (with_reducible refine (extent_Check.calls a1_0 a1_1 a1_2 a1_3 _ _ l1_4 true _ ?side1 ?side2 A5.out).mono ?_); (case side1 => exact Cz.cb HR1_4); (case side2 => exact HC1_4.out); rintro e w24 ⟨rfl, hb⟩; replace BK201 := Cz.bk BK201 hb; replace BK202 := Cz.bk BK202 hb; replace HB := Cz.bs (w := w) hb; (try clear hb); obtain ⟨z25_0, z25_1, z25_2, z25_3, z25_4, y25_0, y25_1, y25_2, y25_3, y25_4⟩ := Cz.d5 BK201; obtain ⟨z26_0, z26_1, z26_2, z26_3, z26_4, y26_0, y26_1, y26_2, y26_3, y26_4⟩ := Cz.d5 BK202))
     go_ret
     exact ⟨Cz.er, Cz.bl (w := w)⟩
   ·rw [if_neg c7] at H
    have c7b0 : ((wrap64 (a0_0 + a0_1)) == a1_0) = false := beq_eq_false_iff_ne.mpr c7
    have c7b1 : ((wrap64 (a0_0 + a0_1)) != a1_0) = true := bne_iff_ne.mpr c7
    obtain rfl := Option.some.inj H
    go_enter Try.func56, Try.ntmps56
    go_wp2_with (first | ((with_reducible refine gate_dst (N := 2) rfl ?_); refine Cz.bx (N := 2) #[.int .i64 a0_0, .int .i64 a0_1, .int .i64 a0_2, .int .i64 a0_3, .slice A0_4 l0_4.length c0_4] 36 ?_; intro gb201 hg w27 hbox hb; have BK201 := Aside0.mk (hbox); have GW201 := Aside0.mk ((Cz.gs hg : w.heap.size ≤ gb201)); have GE201 := GW201; replace HB := Cz.bs (w := w) hb; clear hb hbox hg) | ((with_reducible refine gate_dst (N := 3) rfl ?_); refine Cz.bx (N := 3) #[.int .i64 a1_0, .int .i64 a1_1, .int .i64 a1_2, .int .i64 a1_3, .slice A1_4 l1_4.length c1_4] 36 ?_; intro gb202 hg w28 hbox hb; have BK202 := Aside0.mk (hbox); have GW202 := Aside0.mk ((Cz.gs hg : w.heap.size ≤ gb202)); have GE202 := GW202; have NB201_202 := Aside0.mk ((Cz.nl BK201 hg : gb201 ≠ gb202)); have NB202_201 := Aside0.mk ((Cz.nr BK201 hg : gb202 ≠ gb201)); replace BK201 := Cz.bk BK201 hb; replace HB := Cz.bs (w := w) hb; clear hb hbox hg; have hnb29 := NB201_202.out; have hnc29 := NB202_201.out; obtain ⟨z30_0, z30_1, z30_2, z30_3, z30_4, y30_0, y30_1, y30_2, y30_3, y30_4⟩ := Cz.d5 BK201) | ((with_reducible refine gate_callee (f := 55) rfl ?_); refine Cz.gL (N := (some 6)) Try.func55 #[.agg #[.int .i64 a0_0, .int .i64 a0_1, .int .i64 a0_2, .int .i64 a0_3, .slice A0_4 l0_4.length c0_4]] ?_; (with_reducible refine (extent_Check.calls a0_0 a0_1 a0_2 a0_3 _ _ l0_4 true _ ?side1 ?side2 A3.out).mono ?_); (case side1 => exact Cz.cb HR0_4); (case side2 => exact HC0_4.out); rintro e w31 ⟨rfl, hb⟩; refine ⟨_, rfl, ?_⟩; replace BK201 := Cz.bk BK201 hb; replace BK202 := Cz.bk BK202 hb; replace HB := Cz.bs (w := w) hb; (try clear hb); obtain ⟨z32_0, z32_1, z32_2, z32_3, z32_4, y32_0, y32_1, y32_2, y32_3, y32_4⟩ := Cz.d5 BK202) | (go_at_call 55; (with_reducible refine (extent_Check.calls a1_0 a1_1 a1_2 a1_3 _ _ l1_4 true _ ?side1 ?side2 A5.out).mono ?_); (case side1 => exact Cz.cb HR1_4); (case side2 => exact HC1_4.out); rintro e w33 ⟨rfl, hb⟩; replace BK201 := Cz.bk BK201 hb; replace BK202 := Cz.bk BK202 hb; replace HB := Cz.bs (w := w) hb; (try clear hb); obtain ⟨z34_0, z34_1, z34_2, z34_3, z34_4, y34_0, y34_1, y34_2, y34_3, y34_4⟩ := Cz.d5 BK201; obtain ⟨z35_0, z35_1, z35_2, z35_3, z35_4, y35_0, y35_1, y35_2, y35_3, y35_4⟩ := Cz.d5 BK202))
    go_ret
    exact ⟨Cz.er, Cz.bl (w := w)⟩
  ·replace c6 := Bool.eq_false_iff.mpr c6
   subst c6
   rw [if_neg (show ¬ (false = true) by decide)] at H
   obtain rfl := Option.some.inj H
   go_enter Try.func56, Try.ntmps56
   go_wp2_with (first | ((with_reducible refine gate_dst (N := 2) rfl ?_); refine Cz.bx (N := 2) #[.int .i64 a0_0, .int .i64 a0_1, .int .i64 a0_2, .int .i64 a0_3, .slice A0_4 l0_4.length c0_4] 36 ?_; intro gb201 hg w36 hbox hb; have BK201 := Aside0.mk (hbox); have GW201 := Aside0.mk ((Cz.gs hg : w.heap.size ≤ gb201)); have GE201 := GW201; replace HB := Cz.bs (w := w) hb; clear hb hbox hg) | ((with_reducible refine gate_dst (N := 3) rfl ?_); refine Cz.bx (N := 3) #[.int .i64 a1_0, .int .i64 a1_1, .int .i64 a1_2, .int .i64 a1_3, .slice A1_4 l1_4.length c1_4] 36 ?_; intro gb202 hg w37 hbox hb; have BK202 := Aside0.mk (hbox); have GW202 := Aside0.mk ((Cz.gs hg : w.heap.size ≤ gb202)); have GE202 := GW202; have NB201_202 := Aside0.mk ((Cz.nl BK201 hg : gb201 ≠ gb202)); have NB202_201 := Aside0.mk ((Cz.nr BK201 hg : gb202 ≠ gb201)); replace BK201 := Cz.bk BK201 hb; replace HB := Cz.bs (w := w) hb; clear hb hbox hg; have hnb38 := NB201_202.out; have hnc38 := NB202_201.out; obtain ⟨z39_0, z39_1, z39_2, z39_3, z39_4, y39_0, y39_1, y39_2, y39_3, y39_4⟩ := Cz.d5 BK201) | ((with_reducible refine gate_callee (f := 55) rfl ?_); refine Cz.gL (N := (some 6)) Try.func55 #[.agg #[.int .i64 a0_0, .int .i64 a0_1, .int .i64 a0_2, .int .i64 a0_3, .slice A0_4 l0_4.length c0_4]] ?_; (with_reducible refine (extent_Check.calls a0_0 a0_1 a0_2 a0_3 _ _ l0_4 true _ ?side1 ?side2 A3.out).mono ?_); (case side1 => exact Cz.cb HR0_4); (case side2 => exact HC0_4.out); rintro e w40 ⟨rfl, hb⟩; refine ⟨_, rfl, ?_⟩; replace BK201 := Cz.bk BK201 hb; replace BK202 := Cz.bk BK202 hb; replace HB := Cz.bs (w := w) hb; (try clear hb); obtain ⟨z41_0, z41_1, z41_2, z41_3, z41_4, y41_0, y41_1, y41_2, y41_3, y41_4⟩ := Cz.d5 BK202) | (go_at_call 55; (with_reducible refine (extent_Check.calls a1_0 a1_1 a1_2 a1_3 _ _ l1_4 false _ ?side1 ?side2 A5.out).mono ?_); (case side1 => exact Cz.cb HR1_4); (case side2 => exact HC1_4.out); rintro e w42 ⟨rfl, hb⟩; replace BK201 := Cz.bk BK201 hb; replace BK202 := Cz.bk BK202 hb; replace HB := Cz.bs (w := w) hb; (try clear hb)))
   go_ret
   exact ⟨Cz.er, Cz.bl (w := w)⟩
 ·replace c4 := Bool.eq_false_iff.mpr c4
  subst c4
  rw [if_neg (show ¬ (false = true) by decide)] at H
  obtain rfl := Option.some.inj H
  go_enter Try.func56, Try.ntmps56
  go_wp2_with (first | ((with_reducible refine gate_dst (N := 2) rfl ?_); refine Cz.bx (N := 2) #[.int .i64 a0_0, .int .i64 a0_1, .int .i64 a0_2, .int .i64 a0_3, .slice A0_4 l0_4.length c0_4] 36 ?_; intro gb201 hg w43 hbox hb; have BK201 := Aside0.mk (hbox); have GW201 := Aside0.mk ((Cz.gs hg : w.heap.size ≤ gb201)); have GE201 := GW201; replace HB := Cz.bs (w := w) hb; clear hb hbox hg) | ((with_reducible refine gate_dst (N := 3) rfl ?_); refine Cz.bx (N := 3) #[.int .i64 a1_0, .int .i64 a1_1, .int .i64 a1_2, .int .i64 a1_3, .slice A1_4 l1_4.length c1_4] 36 ?_; intro gb202 hg w44 hbox hb; have BK202 := Aside0.mk (hbox); have GW202 := Aside0.mk ((Cz.gs hg : w.heap.size ≤ gb202)); have GE202 := GW202; have NB201_202 := Aside0.mk ((Cz.nl BK201 hg : gb201 ≠ gb202)); have NB202_201 := Aside0.mk ((Cz.nr BK201 hg : gb202 ≠ gb201)); replace BK201 := Cz.bk BK201 hb; replace HB := Cz.bs (w := w) hb; clear hb hbox hg; have hnb45 := NB201_202.out; have hnc45 := NB202_201.out; obtain ⟨z46_0, z46_1, z46_2, z46_3, z46_4, y46_0, y46_1, y46_2, y46_3, y46_4⟩ := Cz.d5 BK201) | ((with_reducible refine gate_callee (f := 55) rfl ?_); refine Cz.gL (N := (some 6)) Try.func55 #[.agg #[.int .i64 a0_0, .int .i64 a0_1, .int .i64 a0_2, .int .i64 a0_3, .slice A0_4 l0_4.length c0_4]] ?_; (with_reducible refine (extent_Check.calls a0_0 a0_1 a0_2 a0_3 _ _ l0_4 false _ ?side1 ?side2 A3.out).mono ?_); (case side1 => exact Cz.cb HR0_4); (case side2 => exact HC0_4.out); rintro e w47 ⟨rfl, hb⟩; refine ⟨_, rfl, ?_⟩; replace BK201 := Cz.bk BK201 hb; replace BK202 := Cz.bk BK202 hb; replace HB := Cz.bs (w := w) hb; (try clear hb)))
  go_ret
  exact ⟨Cz.er, Cz.bl (w := w)⟩
def extent_Joins.f (a0_0 a0_1 a0_2 a0_3 : Int) (l0_4 : List Int) (a1_0 a1_1 a1_2 a1_3 : Int) (l1_4 : List Int) : Option Bool := some (Pl.joinsB a0_0 a0_1 a0_2 a0_3 l0_4 a1_0 a1_1 a1_2 a1_3 l1_4)
theorem extent_Joins.closes {a0_0 a0_1 a0_2 a0_3 : Int} {l0_4 : List Int} {a1_0 a1_1 a1_2 a1_3 : Int} {l1_4 : List Int} {r : Bool} (h : extent_Joins.f a0_0 a0_1 a0_2 a0_3 l0_4 a1_0 a1_1 a1_2 a1_3 l1_4 = some r) : extent_Joins_p.f a0_0 a0_1 a0_2 a0_3 l0_4 a1_0 a1_1 a1_2 a1_3 l1_4 = some r := by
 rw [← h]
 unfold extent_Joins_p.f extent_Joins.f extent_Check.f
 rw [Option.bind_some]
 by_cases h0 : Pl.extOk a0_0 a0_1 a0_2 a0_3 l0_4 = true
 rotate_left
 ·rw [if_neg h0, Pl.joinsB, Bool.eq_false_iff.2 h0]; rfl
 have hw : wrap64 (a0_0 + a0_1) = a0_0 + a0_1 := by have := Pl.extOk_iff.1 h0; unfold wrap64; omega
 rw [if_pos h0, Option.bind_some, hw, Pl.joinsB, h0]
 by_cases h1 : Pl.extOk a1_0 a1_1 a1_2 a1_3 l1_4 = true
 rotate_left
 ·rw [if_neg h1, Bool.eq_false_iff.2 h1]; rfl
 rw [if_pos h1, h1]
 by_cases h2 : a0_0 + a0_1 = a1_0 <;> by_cases h3 : a0_2 = a1_2 <;> by_cases h4 : a0_3 = a1_3 <;> simp [h2, h3, h4]
theorem extent_Joins.calls (a0_0 : Int) (a0_1 : Int) (a0_2 : Int) (a0_3 : Int) (A0_4 : Option Addr) (c0_4 : Nat) (l0_4 : List Int) (a1_0 : Int) (a1_1 : Int) (a1_2 : Int) (a1_3 : Int) (A1_4 : Option Addr) (c1_4 : Nat) (l1_4 : List Int) (r : Bool) (w : World) (hr0_4 : Kd.C (Kd.int .u8) w A0_4 l0_4.length l0_4) (hc0_4 : l0_4.length ≤ c0_4) (hr1_4 : Kd.C (Kd.int .u8) w A1_4 l1_4.length l1_4) (hc1_4 : l1_4.length ≤ c1_4) (h : extent_Joins.f a0_0 a0_1 a0_2 a0_3 l0_4 a1_0 a1_1 a1_2 a1_3 l1_4 = some r) :
  Calls Try.prog 56 #[.agg #[.int .i64 a0_0, .int .i64 a0_1, .int .i64 a0_2, .int .i64 a0_3, .slice A0_4 l0_4.length c0_4], .agg #[.int .i64 a1_0, .int .i64 a1_1, .int .i64 a1_2, .int .i64 a1_3, .slice A1_4 l1_4.length c1_4]] w fun e w' => e = .returned (.bool r) ∧ Below w.heap.size w w' :=
 extent_Joins_p.calls a0_0 a0_1 a0_2 a0_3 A0_4 c0_4 l0_4 a1_0 a1_1 a1_2 a1_3 A1_4 c1_4 l1_4 r w hr0_4 hc0_4 hr1_4 hc1_4 (extent_Joins.closes h)
end Go.Proofs.Ytohkmmbmfhficaa.PM
