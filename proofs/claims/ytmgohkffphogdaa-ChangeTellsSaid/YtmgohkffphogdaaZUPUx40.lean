/- Words and walks that this claim names, of those that the kit's print and programs of this workplace have printed. -/
import Derived.Test.YtmgohkffphogdaaZUCz
import Derived.Test.YtmgohkffphogdaaZUPUx15
import Derived.Test.YtmgohkffphogdaaZUPUx38
namespace Go.Proofs.Ytmgohkffphogdaa.PU
open Go.Proofs.Ytmgohkffphogdaa Go.RowKit Go.Proofs.YtmgohkffphogdaaW.PrintWords Go.Proofs.YtmgohkffphogdaaW.PrintLast Go.Proofs.YtmgohkffphogdaaW.PrintMore
attribute [local go_sem] max2_int min2_int max_two min_two max_three min_three max_four min_four
set_option linter.unusedVariables false
set_option linter.unusedSimpArgs false
def waggonerref10_Same_p.f (a0_0 : Int) (a0_1 : Int) (a0_2 : Int) (a0_3 : Int) (l0_4 : List Int) (l0_5 : List (S39)) (a1_0 : Int) (a1_1 : Int) (a1_2 : Int) (a1_3 : Int) (l1_4 : List Int) (l1_5 : List (S39)) : Option (Bool) := (waggonerref07_All.f l0_5 l1_5).bind fun t196 => (if a0_0 = a1_0 then (if a0_1 = a1_1 then (if a0_2 = a1_2 then (if a0_3 = a1_3 then (if (strOfNums l0_4).toList = (strOfNums l1_4).toList then (some t196) else (some false)) else (some false)) else (some false)) else (some false)) else (some false))
set_option maxHeartbeats 8000000 in
set_option maxRecDepth 100000 in
theorem waggonerref10_Same_p.calls (a0_0 : Int) (a0_1 : Int) (a0_2 : Int) (a0_3 : Int) (A0_4 : Option Addr) (c0_4 : Nat) (l0_4 : List Int) (A0_5 : Option Addr) (c0_5 : Nat) (l0_5 : List (S39)) (a1_0 : Int) (a1_1 : Int) (a1_2 : Int) (a1_3 : Int) (A1_4 : Option Addr) (c1_4 : Nat) (l1_4 : List Int) (A1_5 : Option Addr) (c1_5 : Nat) (l1_5 : List (S39)) (r : Bool) (w : World) (hr0_4 : Kd.C (Kd.int .u8) w A0_4 l0_4.length l0_4) (hc0_4 : l0_4.length ≤ c0_4) (hr0_5 : Kd.C k39 w A0_5 l0_5.length l0_5) (hc0_5 : l0_5.length ≤ c0_5) (hr1_4 : Kd.C (Kd.int .u8) w A1_4 l1_4.length l1_4) (hc1_4 : l1_4.length ≤ c1_4) (hr1_5 : Kd.C k39 w A1_5 l1_5.length l1_5) (hc1_5 : l1_5.length ≤ c1_5) (h : waggonerref10_Same_p.f a0_0 a0_1 a0_2 a0_3 l0_4 l0_5 a1_0 a1_1 a1_2 a1_3 l1_4 l1_5 = some r) :
  Calls Try.prog 15 #[.agg #[.int .i64 a0_0, .int .i64 a0_1, .int .i64 a0_2, .int .i64 a0_3, .slice A0_4 l0_4.length c0_4, .slice A0_5 l0_5.length c0_5], .agg #[.int .i64 a1_0, .int .i64 a1_1, .int .i64 a1_2, .int .i64 a1_3, .slice A1_4 l1_4.length c1_4, .slice A1_5 l1_5.length c1_5]] w fun e w' => e = .returned (.bool r) ∧ Below w.heap.size w w' := by
 have hu26 := Try.underlying26
 have HR0_4 := Aside0.mk hr0_4
 have HC0_4 := Aside0.mk hc0_4
 clear hr0_4 hc0_4
 have HR0_5 := Aside0.mk hr0_5
 have HC0_5 := Aside0.mk hc0_5
 clear hr0_5 hc0_5
 have HR1_4 := Aside0.mk hr1_4
 have HC1_4 := Aside0.mk hc1_4
 clear hr1_4 hc1_4
 have HR1_5 := Aside0.mk hr1_5
 have HC1_5 := Aside0.mk hc1_5
 clear hr1_5 hc1_5
 have HB := Aside0.mk (Below.refl w.heap.size w)
 have H : ((waggonerref07_All.f l0_5 l1_5).bind fun t196 => (if a0_0 = a1_0 then (if a0_1 = a1_1 then (if a0_2 = a1_2 then (if a0_3 = a1_3 then (if (strOfNums l0_4).toList = (strOfNums l1_4).toList then (some t196) else (some false)) else (some false)) else (some false)) else (some false)) else (some false))) = some r := h
 clear h
 replace H := Option.bind_eq_some_iff.mp H
 obtain ⟨t196, A30, H⟩ := H
 (try dsimp only at H)
 have A3 := Aside0.mk A30
 clear A30
 by_cases c4 : a0_0 = a1_0
 ·rw [if_pos c4] at H
  have c4b0 : (a0_0 == a1_0) = true := beq_iff_eq.mpr c4
  have c4b1 : (a0_0 != a1_0) = false := bne_eq_false_iff_eq.mpr c4
  clear c4
  by_cases c5 : a0_1 = a1_1
  ·rw [if_pos c5] at H
   have c5b0 : (a0_1 == a1_1) = true := beq_iff_eq.mpr c5
   have c5b1 : (a0_1 != a1_1) = false := bne_eq_false_iff_eq.mpr c5
   clear c5
   by_cases c6 : a0_2 = a1_2
   ·rw [if_pos c6] at H
    have c6b0 : (a0_2 == a1_2) = true := beq_iff_eq.mpr c6
    have c6b1 : (a0_2 != a1_2) = false := bne_eq_false_iff_eq.mpr c6
    clear c6
    by_cases c7 : a0_3 = a1_3
    ·rw [if_pos c7] at H
     have c7b0 : (a0_3 == a1_3) = true := beq_iff_eq.mpr c7
     have c7b1 : (a0_3 != a1_3) = false := bne_eq_false_iff_eq.mpr c7
     clear c7
     by_cases c8 : (strOfNums l0_4).toList = (strOfNums l1_4).toList
     ·rw [if_pos c8] at H
      have c8b0 : ((strOfNums l0_4).toList == (strOfNums l1_4).toList) = true := beq_iff_eq.mpr c8
      have c8b1 : ((strOfNums l0_4).toList != (strOfNums l1_4).toList) = false := bne_eq_false_iff_eq.mpr c8
      clear c8
      obtain rfl := Option.some.inj H
      go_enter Try.func15, Try.ntmps15
      go_wp2_with (first | ((with_reducible refine gate_dst (N := 2) rfl ?_); refine Cz.bx (N := 2) #[.int .i64 a0_0, .int .i64 a0_1, .int .i64 a0_2, .int .i64 a0_3, .slice A0_4 l0_4.length c0_4, .slice A0_5 l0_5.length c0_5] 26 ?_; intro gb194 hg w9 hbox hb; have BK194 := Aside0.mk (hbox); have GW194 := Aside0.mk ((Cz.gs hg : w.heap.size ≤ gb194)); have GE194 := GW194; replace HB := Cz.bs (w := w) hb; clear hb hbox hg) | ((with_reducible refine gate_dst (N := 3) rfl ?_); refine Cz.bx (N := 3) #[.int .i64 a1_0, .int .i64 a1_1, .int .i64 a1_2, .int .i64 a1_3, .slice A1_4 l1_4.length c1_4, .slice A1_5 l1_5.length c1_5] 26 ?_; intro gb195 hg w10 hbox hb; have BK195 := Aside0.mk (hbox); have GW195 := Aside0.mk ((Cz.gs hg : w.heap.size ≤ gb195)); have GE195 := GW195; have NB194_195 := Aside0.mk ((Cz.nl BK194 hg : gb194 ≠ gb195)); have NB195_194 := Aside0.mk ((Cz.nr BK194 hg : gb195 ≠ gb194)); replace BK194 := Cz.bk BK194 hb; replace HB := Cz.bs (w := w) hb; clear hb hbox hg; have hnb11 := NB194_195.out; have hnc11 := NB195_194.out; obtain ⟨z12_0, z12_1, z12_2, z12_3, z12_4, z12_5, y12_0, y12_1, y12_2, y12_3, y12_4, y12_5⟩ := Cz.d6 BK194; obtain ⟨z13_0, z13_1, z13_2, z13_3, z13_4, z13_5, y13_0, y13_1, y13_2, y13_3, y13_4, y13_5⟩ := Cz.d6 BK195) | ((with_reducible refine gate_callee (f := 29) rfl ?_); refine Cz.gL (N := (some 10)) Try.func29 #[.slice A0_5 l0_5.length c0_5, .slice A1_5 l1_5.length c1_5] ?_; (with_reducible refine (waggonerref07_All.calls _ _ l0_5 _ _ l1_5 t196 _ ?side1 ?side2 ?side3 ?side4 A3.out).mono ?_); (case side1 => exact Cz.cb HR0_5); (case side2 => exact HC0_5.out); (case side3 => exact Cz.cb HR1_5); (case side4 => exact HC1_5.out); rintro e w14 ⟨rfl, hb⟩; refine ⟨_, rfl, ?_⟩; replace BK194 := Cz.bk BK194 hb; replace BK195 := Cz.bk BK195 hb; replace HB := Cz.bs (w := w) hb; (try clear hb); obtain ⟨z15_0, z15_1, z15_2, z15_3, z15_4, z15_5, y15_0, y15_1, y15_2, y15_3, y15_4, y15_5⟩ := Cz.d6 BK194; obtain ⟨z16_0, z16_1, z16_2, z16_3, z16_4, z16_5, y16_0, y16_1, y16_2, y16_3, y16_4, y16_5⟩ := Cz.d6 BK195; have hcv17 := Kd.C_string (P := Try.prog) (A := A0_4) (c := c0_4) Try.underlying23 Try.underlying5 Try.underlying9 (Kd.C_below HR0_4.out HB.out); (try have hcvd18 := fun (n_ : Nat) => Kd.C_string (P := Try.prog) (A := A0_4) (c := c0_4) Try.underlying23 Try.underlying5 Try.underlying9 (Kd.C_drewN (Kd.C_below HR0_4.out HB.out) n_)); have hcv19 := Kd.C_string (P := Try.prog) (A := A1_4) (c := c1_4) Try.underlying23 Try.underlying5 Try.underlying9 (Kd.C_below HR1_4.out HB.out); (try have hcvd20 := fun (n_ : Nat) => Kd.C_string (P := Try.prog) (A := A1_4) (c := c1_4) Try.underlying23 Try.underlying5 Try.underlying9 (Kd.C_drewN (Kd.C_below HR1_4.out HB.out) n_))))
      go_ret
      exact ⟨Cz.er, Cz.bl (w := w)⟩
     ·rw [if_neg c8] at H
      have c8b0 : ((strOfNums l0_4).toList == (strOfNums l1_4).toList) = false := beq_eq_false_iff_ne.mpr c8
      have c8b1 : ((strOfNums l0_4).toList != (strOfNums l1_4).toList) = true := bne_iff_ne.mpr c8
      obtain rfl := Option.some.inj H
      go_enter Try.func15, Try.ntmps15
      go_wp2_with (first | ((with_reducible refine gate_dst (N := 2) rfl ?_); refine Cz.bx (N := 2) #[.int .i64 a0_0, .int .i64 a0_1, .int .i64 a0_2, .int .i64 a0_3, .slice A0_4 l0_4.length c0_4, .slice A0_5 l0_5.length c0_5] 26 ?_; intro gb194 hg w21 hbox hb; have BK194 := Aside0.mk (hbox); have GW194 := Aside0.mk ((Cz.gs hg : w.heap.size ≤ gb194)); have GE194 := GW194; replace HB := Cz.bs (w := w) hb; clear hb hbox hg) | ((with_reducible refine gate_dst (N := 3) rfl ?_); refine Cz.bx (N := 3) #[.int .i64 a1_0, .int .i64 a1_1, .int .i64 a1_2, .int .i64 a1_3, .slice A1_4 l1_4.length c1_4, .slice A1_5 l1_5.length c1_5] 26 ?_; intro gb195 hg w22 hbox hb; have BK195 := Aside0.mk (hbox); have GW195 := Aside0.mk ((Cz.gs hg : w.heap.size ≤ gb195)); have GE195 := GW195; have NB194_195 := Aside0.mk ((Cz.nl BK194 hg : gb194 ≠ gb195)); have NB195_194 := Aside0.mk ((Cz.nr BK194 hg : gb195 ≠ gb194)); replace BK194 := Cz.bk BK194 hb; replace HB := Cz.bs (w := w) hb; clear hb hbox hg; have hnb23 := NB194_195.out; have hnc23 := NB195_194.out; obtain ⟨z24_0, z24_1, z24_2, z24_3, z24_4, z24_5, y24_0, y24_1, y24_2, y24_3, y24_4, y24_5⟩ := Cz.d6 BK194; obtain ⟨z25_0, z25_1, z25_2, z25_3, z25_4, z25_5, y25_0, y25_1, y25_2, y25_3, y25_4, y25_5⟩ := Cz.d6 BK195) | ((with_reducible refine gate_callee (f := 29) rfl ?_); refine Cz.gL (N := (some 10)) Try.func29 #[.slice A0_5 l0_5.length c0_5, .slice A1_5 l1_5.length c1_5] ?_; (with_reducible refine (waggonerref07_All.calls _ _ l0_5 _ _ l1_5 t196 _ ?side1 ?side2 ?side3 ?side4 A3.out).mono ?_); (case side1 => exact Cz.cb HR0_5); (case side2 => exact HC0_5.out); (case side3 => exact Cz.cb HR1_5); (case side4 => exact HC1_5.out); rintro e w26 ⟨rfl, hb⟩; refine ⟨_, rfl, ?_⟩; replace BK194 := Cz.bk BK194 hb; replace BK195 := Cz.bk BK195 hb; replace HB := Cz.bs (w := w) hb; (try clear hb); obtain ⟨z27_0, z27_1, z27_2, z27_3, z27_4, z27_5, y27_0, y27_1, y27_2, y27_3, y27_4, y27_5⟩ := Cz.d6 BK194; obtain ⟨z28_0, z28_1, z28_2, z28_3, z28_4, z28_5, y28_0, y28_1, y28_2, y28_3, y28_4, y28_5⟩ := Cz.d6 BK195; have hcv29 := Kd.C_string (P := Try.prog) (A := A0_4) (c := c0_4) Try.underlying23 Try.underlying5 Try.underlying9 (Kd.C_below HR0_4.out HB.out); (try have hcvd30 := fun (n_ : Nat) => Kd.C_string (P := Try.prog) (A := A0_4) (c := c0_4) Try.underlying23 Try.underlying5 Try.underlying9 (Kd.C_drewN (Kd.C_below HR0_4.out HB.out) n_)); have hcv31 := Kd.C_string (P := Try.prog) (A := A1_4) (c := c1_4) Try.underlying23 Try.underlying5 Try.underlying9 (Kd.C_below HR1_4.out HB.out); (try have hcvd32 := fun (n_ : Nat) => Kd.C_string (P := Try.prog) (A := A1_4) (c := c1_4) Try.underlying23 Try.underlying5 Try.underlying9 (Kd.C_drewN (Kd.C_below HR1_4.out HB.out) n_))))
      go_ret
      exact ⟨Cz.er, Cz.bl (w := w)⟩
    ·rw [if_neg c7] at H
     have c7b0 : (a0_3 == a1_3) = false := beq_eq_false_iff_ne.mpr c7
     have c7b1 : (a0_3 != a1_3) = true := bne_iff_ne.mpr c7
     obtain rfl := Option.some.inj H
     go_enter Try.func15, Try.ntmps15
     go_wp2_with (first | ((with_reducible refine gate_dst (N := 2) rfl ?_); refine Cz.bx (N := 2) #[.int .i64 a0_0, .int .i64 a0_1, .int .i64 a0_2, .int .i64 a0_3, .slice A0_4 l0_4.length c0_4, .slice A0_5 l0_5.length c0_5] 26 ?_; intro gb194 hg w33 hbox hb; have BK194 := Aside0.mk (hbox); have GW194 := Aside0.mk ((Cz.gs hg : w.heap.size ≤ gb194)); have GE194 := GW194; replace HB := Cz.bs (w := w) hb; clear hb hbox hg) | ((with_reducible refine gate_dst (N := 3) rfl ?_); refine Cz.bx (N := 3) #[.int .i64 a1_0, .int .i64 a1_1, .int .i64 a1_2, .int .i64 a1_3, .slice A1_4 l1_4.length c1_4, .slice A1_5 l1_5.length c1_5] 26 ?_; intro gb195 hg w34 hbox hb; have BK195 := Aside0.mk (hbox); have GW195 := Aside0.mk ((Cz.gs hg : w.heap.size ≤ gb195)); have GE195 := GW195; have NB194_195 := Aside0.mk ((Cz.nl BK194 hg : gb194 ≠ gb195)); have NB195_194 := Aside0.mk ((Cz.nr BK194 hg : gb195 ≠ gb194)); replace BK194 := Cz.bk BK194 hb; replace HB := Cz.bs (w := w) hb; clear hb hbox hg; have hnb35 := NB194_195.out; have hnc35 := NB195_194.out; obtain ⟨z36_0, z36_1, z36_2, z36_3, z36_4, z36_5, y36_0, y36_1, y36_2, y36_3, y36_4, y36_5⟩ := Cz.d6 BK194; obtain ⟨z37_0, z37_1, z37_2, z37_3, z37_4, z37_5, y37_0, y37_1, y37_2, y37_3, y37_4, y37_5⟩ := Cz.d6 BK195) | ((with_reducible refine gate_callee (f := 29) rfl ?_); refine Cz.gL (N := (some 10)) Try.func29 #[.slice A0_5 l0_5.length c0_5, .slice A1_5 l1_5.length c1_5] ?_; (with_reducible refine (waggonerref07_All.calls _ _ l0_5 _ _ l1_5 t196 _ ?side1 ?side2 ?side3 ?side4 A3.out).mono ?_); (case side1 => exact Cz.cb HR0_5); (case side2 => exact HC0_5.out); (case side3 => exact Cz.cb HR1_5); (case side4 => exact HC1_5.out); rintro e w38 ⟨rfl, hb⟩; refine ⟨_, rfl, ?_⟩; replace BK194 := Cz.bk BK194 hb; replace BK195 := Cz.bk BK195 hb; replace HB := Cz.bs (w := w) hb; (try clear hb); obtain ⟨z39_0, z39_1, z39_2, z39_3, z39_4, z39_5, y39_0, y39_1, y39_2, y39_3, y39_4, y39_5⟩ := Cz.d6 BK194; obtain ⟨z40_0, z40_1, z40_2, z40_3, z40_4, z40_5, y40_0, y40_1, y40_2, y40_3, y40_4, y40_5⟩ := Cz.d6 BK195))
     go_ret
     exact ⟨Cz.er, Cz.bl (w := w)⟩
   ·rw [if_neg c6] at H
    have c6b0 : (a0_2 == a1_2) = false := beq_eq_false_iff_ne.mpr c6
    have c6b1 : (a0_2 != a1_2) = true := bne_iff_ne.mpr c6
    obtain rfl := Option.some.inj H
    go_enter Try.func15, Try.ntmps15
    go_wp2_with (first | ((with_reducible refine gate_dst (N := 2) rfl ?_); refine Cz.bx (N := 2) #[.int .i64 a0_0, .int .i64 a0_1, .int .i64 a0_2, .int .i64 a0_3, .slice A0_4 l0_4.length c0_4, .slice A0_5 l0_5.length c0_5] 26 ?_; intro gb194 hg w41 hbox hb; have BK194 := Aside0.mk (hbox); have GW194 := Aside0.mk ((Cz.gs hg : w.heap.size ≤ gb194)); have GE194 := GW194; replace HB := Cz.bs (w := w) hb; clear hb hbox hg) | ((with_reducible refine gate_dst (N := 3) rfl ?_); refine Cz.bx (N := 3) #[.int .i64 a1_0, .int .i64 a1_1, .int .i64 a1_2, .int .i64 a1_3, .slice A1_4 l1_4.length c1_4, .slice A1_5 l1_5.length c1_5] 26 ?_; intro gb195 hg w42 hbox hb; have BK195 := Aside0.mk (hbox); have GW195 := Aside0.mk ((Cz.gs hg : w.heap.size ≤ gb195)); have GE195 := GW195; have NB194_195 := Aside0.mk ((Cz.nl BK194 hg : gb194 ≠ gb195)); have NB195_194 := Aside0.mk ((Cz.nr BK194 hg : gb195 ≠ gb194)); replace BK194 := Cz.bk BK194 hb; replace HB := Cz.bs (w := w) hb; clear hb hbox hg; have hnb43 := NB194_195.out; have hnc43 := NB195_194.out; obtain ⟨z44_0, z44_1, z44_2, z44_3, z44_4, z44_5, y44_0, y44_1, y44_2, y44_3, y44_4, y44_5⟩ := Cz.d6 BK194; obtain ⟨z45_0, z45_1, z45_2, z45_3, z45_4, z45_5, y45_0, y45_1, y45_2, y45_3, y45_4, y45_5⟩ := Cz.d6 BK195) | ((with_reducible refine gate_callee (f := 29) rfl ?_); refine Cz.gL (N := (some 10)) Try.func29 #[.slice A0_5 l0_5.length c0_5, .slice A1_5 l1_5.length c1_5] ?_; (with_reducible refine (waggonerref07_All.calls _ _ l0_5 _ _ l1_5 t196 _ ?side1 ?side2 ?side3 ?side4 A3.out).mono ?_); (case side1 => exact Cz.cb HR0_5); (case side2 => exact HC0_5.out); (case side3 => exact Cz.cb HR1_5); (case side4 => exact HC1_5.out); rintro e w46 ⟨rfl, hb⟩; refine ⟨_, rfl, ?_⟩; replace BK194 := Cz.bk BK194 hb; replace BK195 := Cz.bk BK195 hb; replace HB := Cz.bs (w := w) hb; (try clear hb); obtain ⟨z47_0, z47_1, z47_2, z47_3, z47_4, z47_5, y47_0, y47_1, y47_2, y47_3, y47_4, y47_5⟩ := Cz.d6 BK194; obtain ⟨z48_0, z48_1, z48_2, z48_3, z48_4, z48_5, y48_0, y48_1, y48_2, y48_3, y48_4, y48_5⟩ := Cz.d6 BK195))
    go_ret
    exact ⟨Cz.er, Cz.bl (w := w)⟩
  ·rw [if_neg c5] at H
   have c5b0 : (a0_1 == a1_1) = false := beq_eq_false_iff_ne.mpr c5
   have c5b1 : (a0_1 != a1_1) = true := bne_iff_ne.mpr c5
   obtain rfl := Option.some.inj H
   go_enter Try.func15, Try.ntmps15
   go_wp2_with (first | ((with_reducible refine gate_dst (N := 2) rfl ?_); refine Cz.bx (N := 2) #[.int .i64 a0_0, .int .i64 a0_1, .int .i64 a0_2, .int .i64 a0_3, .slice A0_4 l0_4.length c0_4, .slice A0_5 l0_5.length c0_5] 26 ?_; intro gb194 hg w49 hbox hb; have BK194 := Aside0.mk (hbox); have GW194 := Aside0.mk ((Cz.gs hg : w.heap.size ≤ gb194)); have GE194 := GW194; replace HB := Cz.bs (w := w) hb; clear hb hbox hg) | ((with_reducible refine gate_dst (N := 3) rfl ?_); refine Cz.bx (N := 3) #[.int .i64 a1_0, .int .i64 a1_1, .int .i64 a1_2, .int .i64 a1_3, .slice A1_4 l1_4.length c1_4, .slice A1_5 l1_5.length c1_5] 26 ?_; intro gb195 hg w50 hbox hb; have BK195 := Aside0.mk (hbox); have GW195 := Aside0.mk ((Cz.gs hg : w.heap.size ≤ gb195)); have GE195 := GW195; have NB194_195 := Aside0.mk ((Cz.nl BK194 hg : gb194 ≠ gb195)); have NB195_194 := Aside0.mk ((Cz.nr BK194 hg : gb195 ≠ gb194)); replace BK194 := Cz.bk BK194 hb; replace HB := Cz.bs (w := w) hb; clear hb hbox hg; have hnb51 := NB194_195.out; have hnc51 := NB195_194.out; obtain ⟨z52_0, z52_1, z52_2, z52_3, z52_4, z52_5, y52_0, y52_1, y52_2, y52_3, y52_4, y52_5⟩ := Cz.d6 BK194; obtain ⟨z53_0, z53_1, z53_2, z53_3, z53_4, z53_5, y53_0, y53_1, y53_2, y53_3, y53_4, y53_5⟩ := Cz.d6 BK195) | ((with_reducible refine gate_callee (f := 29) rfl ?_); refine Cz.gL (N := (some 10)) Try.func29 #[.slice A0_5 l0_5.length c0_5, .slice A1_5 l1_5.length c1_5] ?_; (with_reducible refine (waggonerref07_All.calls _ _ l0_5 _ _ l1_5 t196 _ ?side1 ?side2 ?side3 ?side4 A3.out).mono ?_); (case side1 => exact Cz.cb HR0_5); (case side2 => exact HC0_5.out); (case side3 => exact Cz.cb HR1_5); (case side4 => exact HC1_5.out); rintro e w54 ⟨rfl, hb⟩; refine ⟨_, rfl, ?_⟩; replace BK194 := Cz.bk BK194 hb; replace BK195 := Cz.bk BK195 hb; replace HB := Cz.bs (w := w) hb; (try clear hb); obtain ⟨z55_0, z55_1, z55_2, z55_3, z55_4, z55_5, y55_0, y55_1, y55_2, y55_3, y55_4, y55_5⟩ := Cz.d6 BK194; obtain ⟨z56_0, z56_1, z56_2, z56_3, z56_4, z56_5, y56_0, y56_1, y56_2, y56_3, y56_4, y56_5⟩ := Cz.d6 BK195))
   go_ret
   exact ⟨Cz.er, Cz.bl (w := w)⟩
 ·rw [if_neg c4] at H
  have c4b0 : (a0_0 == a1_0) = false := beq_eq_false_iff_ne.mpr c4
  have c4b1 : (a0_0 != a1_0) = true := bne_iff_ne.mpr c4
  obtain rfl := Option.some.inj H
  go_enter Try.func15, Try.ntmps15
  go_wp2_with (first | ((with_reducible refine gate_dst (N := 2) rfl ?_); refine Cz.bx (N := 2) #[.int .i64 a0_0, .int .i64 a0_1, .int .i64 a0_2, .int .i64 a0_3, .slice A0_4 l0_4.length c0_4, .slice A0_5 l0_5.length c0_5] 26 ?_; intro gb194 hg w57 hbox hb; have BK194 := Aside0.mk (hbox); have GW194 := Aside0.mk ((Cz.gs hg : w.heap.size ≤ gb194)); have GE194 := GW194; replace HB := Cz.bs (w := w) hb; clear hb hbox hg) | ((with_reducible refine gate_dst (N := 3) rfl ?_); refine Cz.bx (N := 3) #[.int .i64 a1_0, .int .i64 a1_1, .int .i64 a1_2, .int .i64 a1_3, .slice A1_4 l1_4.length c1_4, .slice A1_5 l1_5.length c1_5] 26 ?_; intro gb195 hg w58 hbox hb; have BK195 := Aside0.mk (hbox); have GW195 := Aside0.mk ((Cz.gs hg : w.heap.size ≤ gb195)); have GE195 := GW195; have NB194_195 := Aside0.mk ((Cz.nl BK194 hg : gb194 ≠ gb195)); have NB195_194 := Aside0.mk ((Cz.nr BK194 hg : gb195 ≠ gb194)); replace BK194 := Cz.bk BK194 hb; replace HB := Cz.bs (w := w) hb; clear hb hbox hg; have hnb59 := NB194_195.out; have hnc59 := NB195_194.out; obtain ⟨z60_0, z60_1, z60_2, z60_3, z60_4, z60_5, y60_0, y60_1, y60_2, y60_3, y60_4, y60_5⟩ := Cz.d6 BK194; obtain ⟨z61_0, z61_1, z61_2, z61_3, z61_4, z61_5, y61_0, y61_1, y61_2, y61_3, y61_4, y61_5⟩ := Cz.d6 BK195) | ((with_reducible refine gate_callee (f := 29) rfl ?_); refine Cz.gL (N := (some 10)) Try.func29 #[.slice A0_5 l0_5.length c0_5, .slice A1_5 l1_5.length c1_5] ?_; (with_reducible refine (waggonerref07_All.calls _ _ l0_5 _ _ l1_5 t196 _ ?side1 ?side2 ?side3 ?side4 A3.out).mono ?_); (case side1 => exact Cz.cb HR0_5); (case side2 => exact HC0_5.out); (case side3 => exact Cz.cb HR1_5); (case side4 => exact HC1_5.out); rintro e w62 ⟨rfl, hb⟩; refine ⟨_, rfl, ?_⟩; replace BK194 := Cz.bk BK194 hb; replace BK195 := Cz.bk BK195 hb; replace HB := Cz.bs (w := w) hb; (try clear hb); obtain ⟨z63_0, z63_1, z63_2, z63_3, z63_4, z63_5, y63_0, y63_1, y63_2, y63_3, y63_4, y63_5⟩ := Cz.d6 BK194; obtain ⟨z64_0, z64_1, z64_2, z64_3, z64_4, z64_5, y64_0, y64_1, y64_2, y64_3, y64_4, y64_5⟩ := Cz.d6 BK195))
  go_ret
  exact ⟨Cz.er, Cz.bl (w := w)⟩
def waggonerref10_Same.f (a0_0 a0_1 a0_2 a0_3 : Int) (l0_4 : List Int) (l0_5 : List S39) (a1_0 a1_1 a1_2 a1_3 : Int) (l1_4 : List Int) (l1_5 : List S39) : Option Bool := if Pl.byteB l0_4 = true ∧ Pl.byteB l1_4 = true ∧ (∀ s ∈ l0_5, Pl.byteB s.f4 = true) ∧ (∀ s ∈ l1_5, Pl.byteB s.f4 = true) ∧ l0_5.length < 1073741824 then some (decide (a0_0 = a1_0 ∧ a0_1 = a1_1 ∧ a0_2 = a1_2 ∧ a0_3 = a1_3 ∧ l0_4 = l1_4 ∧ l0_5.map toE = l1_5.map toE)) else none
theorem waggonerref10_Same.tells {a0_0 a0_1 a0_2 a0_3 : Int} {l0_4 : List Int} {l0_5 : List S39} {a1_0 a1_1 a1_2 a1_3 : Int} {l1_4 : List Int} {l1_5 : List S39} (h0 : Pl.byteB l0_4 = true) (h1 : Pl.byteB l1_4 = true) (h2 : ∀ s ∈ l0_5, Pl.byteB s.f4 = true) (h3 : ∀ s ∈ l1_5, Pl.byteB s.f4 = true) (h4 : l0_5.length < 1073741824) : waggonerref10_Same.f a0_0 a0_1 a0_2 a0_3 l0_4 l0_5 a1_0 a1_1 a1_2 a1_3 l1_4 l1_5 = some (decide (a0_0 = a1_0 ∧ a0_1 = a1_1 ∧ a0_2 = a1_2 ∧ a0_3 = a1_3 ∧ l0_4 = l1_4 ∧ l0_5.map toE = l1_5.map toE)) := if_pos ⟨h0, h1, h2, h3, h4⟩
theorem waggonerref10_Same.closes {a0_0 a0_1 a0_2 a0_3 : Int} {l0_4 : List Int} {l0_5 : List S39} {a1_0 a1_1 a1_2 a1_3 : Int} {l1_4 : List Int} {l1_5 : List S39} {r : Bool} (h : waggonerref10_Same.f a0_0 a0_1 a0_2 a0_3 l0_4 l0_5 a1_0 a1_1 a1_2 a1_3 l1_4 l1_5 = some r) : waggonerref10_Same_p.f a0_0 a0_1 a0_2 a0_3 l0_4 l0_5 a1_0 a1_1 a1_2 a1_3 l1_4 l1_5 = some r := by
 unfold waggonerref10_Same.f at h
 split at h
 case isFalse => cases h
 rename_i hh
 obtain ⟨h0, h1, h2, h3, h4⟩ := hh
 rw [← h]
 unfold waggonerref10_Same_p.f
 rw [waggonerref07_All.tells h2 h3 h4, Option.bind_some]
 have hs : (strOfNums l0_4).toList = (strOfNums l1_4).toList ↔ l0_4 = l1_4 := by
  have := Pl.str_eq h0 h1
  rw [Bool.eq_iff_iff, beq_iff_eq, beq_iff_eq] at this
  exact this
 by_cases c0 : a0_0 = a1_0
 rotate_left
 ·rw [if_neg c0, decide_eq_false (fun e => c0 e.1)]
 by_cases c1 : a0_1 = a1_1
 rotate_left
 ·rw [if_pos c0, if_neg c1, decide_eq_false (fun e => c1 e.2.1)]
 by_cases c2 : a0_2 = a1_2
 rotate_left
 ·rw [if_pos c0, if_pos c1, if_neg c2, decide_eq_false (fun e => c2 e.2.2.1)]
 by_cases c3 : a0_3 = a1_3
 rotate_left
 ·rw [if_pos c0, if_pos c1, if_pos c2, if_neg c3, decide_eq_false (fun e => c3 e.2.2.2.1)]
 by_cases c4 : l0_4 = l1_4
 rotate_left
 ·rw [if_pos c0, if_pos c1, if_pos c2, if_pos c3, if_neg (fun e => c4 (hs.1 e)), decide_eq_false (fun e => c4 e.2.2.2.2.1)]
 rw [if_pos c0, if_pos c1, if_pos c2, if_pos c3, if_pos (hs.2 c4), Option.some.injEq, decide_eq_decide]
 exact ⟨fun e => ⟨c0, c1, c2, c3, c4, e⟩, fun e => e.2.2.2.2.2⟩
theorem waggonerref10_Same.calls (a0_0 : Int) (a0_1 : Int) (a0_2 : Int) (a0_3 : Int) (A0_4 : Option Addr) (c0_4 : Nat) (l0_4 : List Int) (A0_5 : Option Addr) (c0_5 : Nat) (l0_5 : List (S39)) (a1_0 : Int) (a1_1 : Int) (a1_2 : Int) (a1_3 : Int) (A1_4 : Option Addr) (c1_4 : Nat) (l1_4 : List Int) (A1_5 : Option Addr) (c1_5 : Nat) (l1_5 : List (S39)) (r : Bool) (w : World) (hr0_4 : Kd.C (Kd.int .u8) w A0_4 l0_4.length l0_4) (hc0_4 : l0_4.length ≤ c0_4) (hr0_5 : Kd.C k39 w A0_5 l0_5.length l0_5) (hc0_5 : l0_5.length ≤ c0_5) (hr1_4 : Kd.C (Kd.int .u8) w A1_4 l1_4.length l1_4) (hc1_4 : l1_4.length ≤ c1_4) (hr1_5 : Kd.C k39 w A1_5 l1_5.length l1_5) (hc1_5 : l1_5.length ≤ c1_5) (h : waggonerref10_Same.f a0_0 a0_1 a0_2 a0_3 l0_4 l0_5 a1_0 a1_1 a1_2 a1_3 l1_4 l1_5 = some r) :
  Calls Try.prog 15 #[.agg #[.int .i64 a0_0, .int .i64 a0_1, .int .i64 a0_2, .int .i64 a0_3, .slice A0_4 l0_4.length c0_4, .slice A0_5 l0_5.length c0_5], .agg #[.int .i64 a1_0, .int .i64 a1_1, .int .i64 a1_2, .int .i64 a1_3, .slice A1_4 l1_4.length c1_4, .slice A1_5 l1_5.length c1_5]] w fun e w' => e = .returned (.bool r) ∧ Below w.heap.size w w' :=
 waggonerref10_Same_p.calls a0_0 a0_1 a0_2 a0_3 A0_4 c0_4 l0_4 A0_5 c0_5 l0_5 a1_0 a1_1 a1_2 a1_3 A1_4 c1_4 l1_4 A1_5 c1_5 l1_5 r w hr0_4 hc0_4 hr0_5 hc0_5 hr1_4 hc1_4 hr1_5 hc1_5 (waggonerref10_Same.closes h)
end Go.Proofs.Ytmgohkffphogdaa.PU
