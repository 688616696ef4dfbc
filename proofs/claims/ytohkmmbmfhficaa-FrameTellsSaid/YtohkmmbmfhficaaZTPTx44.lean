/- Words and walks that this claim names, of those that the kit's print and programs of this workplace have printed. -/
import Derived.Test.YtohkmmbmfhficaaZTCz
import Derived.Test.YtohkmmbmfhficaaZTPTx11
namespace Go.Proofs.Ytohkmmbmfhficaa.PT
open Go.Proofs.Ytohkmmbmfhficaa Go.RowKit Go.Proofs.YtohkmmbmfhficaaW.PrintWords Go.Proofs.YtohkmmbmfhficaaW.PrintLast Go.Proofs.YtohkmmbmfhficaaW.PrintMore
attribute [local go_sem] max2_int min2_int max_two min_two max_three min_three max_four min_four
set_option linter.unusedVariables false
set_option linter.unusedSimpArgs false
def waggonerref16_Same_p.f (a0_0 : Int) (a0_1 : Int) (a0_2 : Int) (l0_3 : List Int) (a0_4 : Int) (a0_5 : Int) (a0_6 : Int) (a1_0 : Int) (a1_1 : Int) (a1_2 : Int) (l1_3 : List Int) (a1_4 : Int) (a1_5 : Int) (a1_6 : Int) : Option (Bool) := if a0_0 = a1_0 then (if a0_1 = a1_1 then (if a0_2 = a1_2 then (if (strOfNums l0_3).toList = (strOfNums l1_3).toList then (if a0_4 = a1_4 then (if a0_5 = a1_5 then (some (a0_6 == a1_6)) else (some false)) else (some false)) else (some false)) else (some false)) else (some false)) else (some false)
set_option maxHeartbeats 8000000 in
set_option maxRecDepth 100000 in
theorem waggonerref16_Same_p.calls (a0_0 : Int) (a0_1 : Int) (a0_2 : Int) (A0_3 : Option Addr) (c0_3 : Nat) (l0_3 : List Int) (a0_4 : Int) (a0_5 : Int) (a0_6 : Int) (a1_0 : Int) (a1_1 : Int) (a1_2 : Int) (A1_3 : Option Addr) (c1_3 : Nat) (l1_3 : List Int) (a1_4 : Int) (a1_5 : Int) (a1_6 : Int) (r : Bool) (w : World) (hr0_3 : Kd.C (Kd.int .u8) w A0_3 l0_3.length l0_3) (hc0_3 : l0_3.length ≤ c0_3) (hr1_3 : Kd.C (Kd.int .u8) w A1_3 l1_3.length l1_3) (hc1_3 : l1_3.length ≤ c1_3) (h : waggonerref16_Same_p.f a0_0 a0_1 a0_2 l0_3 a0_4 a0_5 a0_6 a1_0 a1_1 a1_2 l1_3 a1_4 a1_5 a1_6 = some r) :
  Calls Try.prog 23 #[.agg #[.int .i64 a0_0, .int .i64 a0_1, .int .i64 a0_2, .slice A0_3 l0_3.length c0_3, .int .i64 a0_4, .int .i64 a0_5, .int .i64 a0_6], .agg #[.int .i64 a1_0, .int .i64 a1_1, .int .i64 a1_2, .slice A1_3 l1_3.length c1_3, .int .i64 a1_4, .int .i64 a1_5, .int .i64 a1_6]] w fun e w' => e = .returned (.bool r) ∧ Below w.heap.size w w' := by
 have hu38 := Try.underlying38
 have HR0_3 := Aside0.mk hr0_3
 have HC0_3 := Aside0.mk hc0_3
 clear hr0_3 hc0_3
 have HR1_3 := Aside0.mk hr1_3
 have HC1_3 := Aside0.mk hc1_3
 clear hr1_3 hc1_3
 have HB := Aside0.mk (Below.refl w.heap.size w)
 have H : (if a0_0 = a1_0 then (if a0_1 = a1_1 then (if a0_2 = a1_2 then (if (strOfNums l0_3).toList = (strOfNums l1_3).toList then (if a0_4 = a1_4 then (if a0_5 = a1_5 then (some (a0_6 == a1_6)) else (some false)) else (some false)) else (some false)) else (some false)) else (some false)) else (some false)) = some r := h
 clear h
 by_cases c3 : a0_0 = a1_0
 ·rw [if_pos c3] at H
  have c3b0 : (a0_0 == a1_0) = true := beq_iff_eq.mpr c3
  have c3b1 : (a0_0 != a1_0) = false := bne_eq_false_iff_eq.mpr c3
  clear c3
  by_cases c4 : a0_1 = a1_1
  ·rw [if_pos c4] at H
   have c4b0 : (a0_1 == a1_1) = true := beq_iff_eq.mpr c4
   have c4b1 : (a0_1 != a1_1) = false := bne_eq_false_iff_eq.mpr c4
   clear c4
   by_cases c5 : a0_2 = a1_2
   ·rw [if_pos c5] at H
    have c5b0 : (a0_2 == a1_2) = true := beq_iff_eq.mpr c5
    have c5b1 : (a0_2 != a1_2) = false := bne_eq_false_iff_eq.mpr c5
    clear c5
    by_cases c6 : (strOfNums l0_3).toList = (strOfNums l1_3).toList
    ·rw [if_pos c6] at H
     have c6b0 : ((strOfNums l0_3).toList == (strOfNums l1_3).toList) = true := beq_iff_eq.mpr c6
     have c6b1 : ((strOfNums l0_3).toList != (strOfNums l1_3).toList) = false := bne_eq_false_iff_eq.mpr c6
     clear c6
     by_cases c7 : a0_4 = a1_4
     ·rw [if_pos c7] at H
      have c7b0 : (a0_4 == a1_4) = true := beq_iff_eq.mpr c7
      have c7b1 : (a0_4 != a1_4) = false := bne_eq_false_iff_eq.mpr c7
      clear c7
      by_cases c8 : a0_5 = a1_5
      ·rw [if_pos c8] at H
       have c8b0 : (a0_5 == a1_5) = true := beq_iff_eq.mpr c8
       have c8b1 : (a0_5 != a1_5) = false := bne_eq_false_iff_eq.mpr c8
       clear c8
       obtain rfl := Option.some.inj H
       go_enter Try.func23, Try.ntmps23
       go_wp2_with (first | ((with_reducible refine gate_dst (N := 2) rfl ?_); refine Cz.bx (N := 2) #[.int .i64 a0_0, .int .i64 a0_1, .int .i64 a0_2, .slice A0_3 l0_3.length c0_3, .int .i64 a0_4, .int .i64 a0_5, .int .i64 a0_6] 38 ?_; intro gb191 hg w9 hbox hb; have BK191 := Aside0.mk (hbox); have GW191 := Aside0.mk ((Cz.gs hg : w.heap.size ≤ gb191)); have GE191 := GW191; replace HB := Cz.bs (w := w) hb; clear hb hbox hg) | ((with_reducible refine gate_dst (N := 3) rfl ?_); refine Cz.bx (N := 3) #[.int .i64 a1_0, .int .i64 a1_1, .int .i64 a1_2, .slice A1_3 l1_3.length c1_3, .int .i64 a1_4, .int .i64 a1_5, .int .i64 a1_6] 38 ?_; intro gb192 hg w10 hbox hb; have BK192 := Aside0.mk (hbox); have GW192 := Aside0.mk ((Cz.gs hg : w.heap.size ≤ gb192)); have GE192 := GW192; have NB191_192 := Aside0.mk ((Cz.nl BK191 hg : gb191 ≠ gb192)); have NB192_191 := Aside0.mk ((Cz.nr BK191 hg : gb192 ≠ gb191)); replace BK191 := Cz.bk BK191 hb; replace HB := Cz.bs (w := w) hb; clear hb hbox hg; have hnb11 := NB191_192.out; have hnc11 := NB192_191.out; obtain ⟨z12_0, z12_1, z12_2, z12_3, z12_4, z12_5, z12_6, y12_0, y12_1, y12_2, y12_3, y12_4, y12_5, y12_6⟩ := Cz.d7 BK191; obtain ⟨z13_0, z13_1, z13_2, z13_3, z13_4, z13_5, z13_6, y13_0, y13_1, y13_2, y13_3, y13_4, y13_5, y13_6⟩ := Cz.d7 BK192; have hcv14 := Kd.C_string (P := Try.prog) (A := A0_3) (c := c0_3) Try.underlying27 Try.underlying5 Try.underlying9 (Kd.C_below HR0_3.out HB.out); (try have hcvd15 := fun (n_ : Nat) => Kd.C_string (P := Try.prog) (A := A0_3) (c := c0_3) Try.underlying27 Try.underlying5 Try.underlying9 (Kd.C_drewN (Kd.C_below HR0_3.out HB.out) n_)); have hcv16 := Kd.C_string (P := Try.prog) (A := A1_3) (c := c1_3) Try.underlying27 Try.underlying5 Try.underlying9 (Kd.C_below HR1_3.out HB.out); (try have hcvd17 := fun (n_ : Nat) => Kd.C_string (P := Try.prog) (A := A1_3) (c := c1_3) Try.underlying27 Try.underlying5 Try.underlying9 (Kd.C_drewN (Kd.C_below HR1_3.out HB.out) n_))))
       go_ret
       exact ⟨Cz.er, Cz.bl (w := w)⟩
      ·rw [if_neg c8] at H
       have c8b0 : (a0_5 == a1_5) = false := beq_eq_false_iff_ne.mpr c8
       have c8b1 : (a0_5 != a1_5) = true := bne_iff_ne.mpr c8
       obtain rfl := Option.some.inj H
       go_enter Try.func23, Try.ntmps23
       go_wp2_with (first | ((with_reducible refine gate_dst (N := 2) rfl ?_); refine Cz.bx (N := 2) #[.int .i64 a0_0, .int .i64 a0_1, .int .i64 a0_2, .slice A0_3 l0_3.length c0_3, .int .i64 a0_4, .int .i64 a0_5, .int .i64 a0_6] 38 ?_; intro gb191 hg w18 hbox hb; have BK191 := Aside0.mk (hbox); have GW191 := Aside0.mk ((Cz.gs hg : w.heap.size ≤ gb191)); have GE191 := GW191; replace HB := Cz.bs (w := w) hb; clear hb hbox hg) | ((with_reducible refine gate_dst (N := 3) rfl ?_); refine Cz.bx (N := 3) #[.int .i64 a1_0, .int .i64 a1_1, .int .i64 a1_2, .slice A1_3 l1_3.length c1_3, .int .i64 a1_4, .int .i64 a1_5, .int .i64 a1_6] 38 ?_; intro gb192 hg w19 hbox hb; have BK192 := Aside0.mk (hbox); have GW192 := Aside0.mk ((Cz.gs hg : w.heap.size ≤ gb192)); have GE192 := GW192; have NB191_192 := Aside0.mk ((Cz.nl BK191 hg : gb191 ≠ gb192)); have NB192_191 := Aside0.mk ((Cz.nr BK191 hg : gb192 ≠ gb191)); replace BK191 := Cz.bk BK191 hb; replace HB := Cz.bs (w := w) hb; clear hb hbox hg; have hnb20 := NB191_192.out; have hnc20 := NB192_191.out; obtain ⟨z21_0, z21_1, z21_2, z21_3, z21_4, z21_5, z21_6, y21_0, y21_1, y21_2, y21_3, y21_4, y21_5, y21_6⟩ := Cz.d7 BK191; obtain ⟨z22_0, z22_1, z22_2, z22_3, z22_4, z22_5, z22_6, y22_0, y22_1, y22_2, y22_3, y22_4, y22_5, y22_6⟩ := Cz.d7 BK192; have hcv23 := Kd.C_string (P := Try.prog) (A := A0_3) (c := c0_3) Try.underlying27 Try.underlying5 Try.underlying9 (Kd.C_below HR0_3.out HB.out); (try have hcvd24 := fun (n_ : Nat) => Kd.C_string (P := Try.prog) (A := A0_3) (c := c0_3) Try.underlying27 Try.underlying5 Try.underlying9 (Kd.C_drewN (Kd.C_below HR0_3.out HB.out) n_)); have hcv25 := Kd.C_string (P := Try.prog) (A := A1_3) (c := c1_3) Try.underlying27 Try.underlying5 Try.underlying9 (Kd.C_below HR1_3.out HB.out); (try have hcvd26 := fun (n_ : Nat) => Kd.C_string (P := Try.prog) (A := A1_3) (c := c1_3) Try.underlying27 Try.underlying5 Try.underlying9 (Kd.C_drewN (Kd.C_below HR1_3.out HB.out) n_))))
       go_ret
       exact ⟨Cz.er, Cz.bl (w := w)⟩
     ·rw [if_neg c7] at H
      have c7b0 : (a0_4 == a1_4) = false := beq_eq_false_iff_ne.mpr c7
      have c7b1 : (a0_4 != a1_4) = true := bne_iff_ne.mpr c7
      obtain rfl := Option.some.inj H
      go_enter Try.func23, Try.ntmps23
      go_wp2_with (first | ((with_reducible refine gate_dst (N := 2) rfl ?_); refine Cz.bx (N := 2) #[.int .i64 a0_0, .int .i64 a0_1, .int .i64 a0_2, .slice A0_3 l0_3.length c0_3, .int .i64 a0_4, .int .i64 a0_5, .int .i64 a0_6] 38 ?_; intro gb191 hg w27 hbox hb; have BK191 := Aside0.mk (hbox); have GW191 := Aside0.mk ((Cz.gs hg : w.heap.size ≤ gb191)); have GE191 := GW191; replace HB := Cz.bs (w := w) hb; clear hb hbox hg) | ((with_reducible refine gate_dst (N := 3) rfl ?_); refine Cz.bx (N := 3) #[.int .i64 a1_0, .int .i64 a1_1, .int .i64 a1_2, .slice A1_3 l1_3.length c1_3, .int .i64 a1_4, .int .i64 a1_5, .int .i64 a1_6] 38 ?_; intro gb192 hg w28 hbox hb; have BK192 := Aside0.mk (hbox); have GW192 := Aside0.mk ((Cz.gs hg : w.heap.size ≤ gb192)); have GE192 := GW192; have NB191_192 := Aside0.mk ((Cz.nl BK191 hg : gb191 ≠ gb192)); have NB192_191 := Aside0.mk ((Cz.nr BK191 hg : gb192 ≠ gb191)); replace BK191 := Cz.bk BK191 hb; replace HB := Cz.bs (w := w) hb; clear hb hbox hg; have hnb29 := NB191_192.out; have hnc29 := NB192_191.out; obtain ⟨z30_0, z30_1, z30_2, z30_3, z30_4, z30_5, z30_6, y30_0, y30_1, y30_2, y30_3, y30_4, y30_5, y30_6⟩ := Cz.d7 BK191; obtain ⟨z31_0, z31_1, z31_2, z31_3, z31_4, z31_5, z31_6, y31_0, y31_1, y31_2, y31_3, y31_4, y31_5, y31_6⟩ := Cz.d7 BK192; have hcv32 := Kd.C_string (P := Try.prog) (A := A0_3) (c := c0_3) Try.underlying27 Try.underlying5 Try.underlying9 (Kd.C_below HR0_3.out HB.out); (try have hcvd33 := fun (n_ : Nat) => Kd.C_string (P := Try.prog) (A := A0_3) (c := c0_3) Try.underlying27 Try.underlying5 Try.underlying9 (Kd.C_drewN (Kd.C_below HR0_3.out HB.out) n_)); have hcv34 := Kd.C_string (P := Try.prog) (A := A1_3) (c := c1_3) Try.underlying27 Try.underlying5 Try.underlying9 (Kd.C_below HR1_3.out HB.out); (try have hcvd35 := fun (n_ : Nat) => Kd.C_string (P := Try.prog) (A := A1_3) (c := c1_3) Try.underlying27 Try.underlying5 Try.underlying9 (Kd.C_drewN (Kd.C_below HR1_3.out HB.out) n_))))
      go_ret
      exact ⟨Cz.er, Cz.bl (w := w)⟩
    ·rw [if_neg c6] at H
     have c6b0 : ((strOfNums l0_3).toList == (strOfNums l1_3).toList) = false := beq_eq_false_iff_ne.mpr c6
     have c6b1 : ((strOfNums l0_3).toList != (strOfNums l1_3).toList) = true := bne_iff_ne.mpr c6
     obtain rfl := Option.some.inj H
     go_enter Try.func23, Try.ntmps23
     go_wp2_with (first | ((with_reducible refine gate_dst (N := 2) rfl ?_); refine Cz.bx (N := 2) #[.int .i64 a0_0, .int .i64 a0_1, .int .i64 a0_2, .slice A0_3 l0_3.length c0_3, .int .i64 a0_4, .int .i64 a0_5, .int .i64 a0_6] 38 ?_; intro gb191 hg w36 hbox hb; have BK191 := Aside0.mk (hbox); have GW191 := Aside0.mk ((Cz.gs hg : w.heap.size ≤ gb191)); have GE191 := GW191; replace HB := Cz.bs (w := w) hb; clear hb hbox hg) | ((with_reducible refine gate_dst (N := 3) rfl ?_); refine Cz.bx (N := 3) #[.int .i64 a1_0, .int .i64 a1_1, .int .i64 a1_2, .slice A1_3 l1_3.length c1_3, .int .i64 a1_4, .int .i64 a1_5, .int .i64 a1_6] 38 ?_; intro gb192 hg w37 hbox hb; have BK192 := Aside0.mk (hbox); have GW192 := Aside0.mk ((Cz.gs hg : w.heap.size ≤ gb192)); have GE192 := GW192; have NB191_192 := Aside0.mk ((Cz.nl BK191 hg : gb191 ≠ gb192)); have NB192_191 := Aside0.mk ((Cz.nr BK191 hg : gb192 ≠ gb191)); replace BK191 := Cz.bk BK191 hb; replace HB := Cz.bs (w := w) hb; clear hb hbox hg; have hnb38 := NB191_192.out; have hnc38 := NB192_191.out; obtain ⟨z39_0, z39_1, z39_2, z39_3, z39_4, z39_5, z39_6, y39_0, y39_1, y39_2, y39_3, y39_4, y39_5, y39_6⟩ := Cz.d7 BK191; obtain ⟨z40_0, z40_1, z40_2, z40_3, z40_4, z40_5, z40_6, y40_0, y40_1, y40_2, y40_3, y40_4, y40_5, y40_6⟩ := Cz.d7 BK192; have hcv41 := Kd.C_string (P := Try.prog) (A := A0_3) (c := c0_3) Try.underlying27 Try.underlying5 Try.underlying9 (Kd.C_below HR0_3.out HB.out); (try have hcvd42 := fun (n_ : Nat) => Kd.C_string (P := Try.prog) (A := A0_3) (c := c0_3) Try.underlying27 Try.underlying5 Try.underlying9 (Kd.C_drewN (Kd.C_below HR0_3.out HB.out) n_)); have hcv43 := Kd.C_string (P := Try.prog) (A := A1_3) (c := c1_3) Try.underlying27 Try.underlying5 Try.underlying9 (Kd.C_below HR1_3.out HB.out); (try have hcvd44 := fun (n_ : Nat) => Kd.C_string (P := Try.prog) (A := A1_3) (c := c1_3) Try.underlying27 Try.underlying5 Try.underlying9 (Kd.C_drewN (Kd.C_below HR1_3.out HB.out) n_))))
     go_ret
     exact ⟨Cz.er, Cz.bl (w := w)⟩
   ·rw [if_neg c5] at H
    have c5b0 : (a0_2 == a1_2) = false := beq_eq_false_iff_ne.mpr c5
    have c5b1 : (a0_2 != a1_2) = true := bne_iff_ne.mpr c5
    obtain rfl := Option.some.inj H
    go_enter Try.func23, Try.ntmps23
    go_wp2_with (first | ((with_reducible refine gate_dst (N := 2) rfl ?_); refine Cz.bx (N := 2) #[.int .i64 a0_0, .int .i64 a0_1, .int .i64 a0_2, .slice A0_3 l0_3.length c0_3, .int .i64 a0_4, .int .i64 a0_5, .int .i64 a0_6] 38 ?_; intro gb191 hg w45 hbox hb; have BK191 := Aside0.mk (hbox); have GW191 := Aside0.mk ((Cz.gs hg : w.heap.size ≤ gb191)); have GE191 := GW191; replace HB := Cz.bs (w := w) hb; clear hb hbox hg) | ((with_reducible refine gate_dst (N := 3) rfl ?_); refine Cz.bx (N := 3) #[.int .i64 a1_0, .int .i64 a1_1, .int .i64 a1_2, .slice A1_3 l1_3.length c1_3, .int .i64 a1_4, .int .i64 a1_5, .int .i64 a1_6] 38 ?_; intro gb192 hg w46 hbox hb; have BK192 := Aside0.mk (hbox); have GW192 := Aside0.mk ((Cz.gs hg : w.heap.size ≤ gb192)); have GE192 := GW192; have NB191_192 := Aside0.mk ((Cz.nl BK191 hg : gb191 ≠ gb192)); have NB192_191 := Aside0.mk ((Cz.nr BK191 hg : gb192 ≠ gb191)); replace BK191 := Cz.bk BK191 hb; replace HB := Cz.bs (w := w) hb; clear hb hbox hg; have hnb47 := NB191_192.out; have hnc47 := NB192_191.out; obtain ⟨z48_0, z48_1, z48_2, z48_3, z48_4, z48_5, z48_6, y48_0, y48_1, y48_2, y48_3, y48_4, y48_5, y48_6⟩ := Cz.d7 BK191; obtain ⟨z49_0, z49_1, z49_2, z49_3, z49_4, z49_5, z49_6, y49_0, y49_1, y49_2, y49_3, y49_4, y49_5, y49_6⟩ := Cz.d7 BK192))
    go_ret
    exact ⟨Cz.er, Cz.bl (w := w)⟩
  ·rw [if_neg c4] at H
   have c4b0 : (a0_1 == a1_1) = false := beq_eq_false_iff_ne.mpr c4
   have c4b1 : (a0_1 != a1_1) = true := bne_iff_ne.mpr c4
   obtain rfl := Option.some.inj H
   go_enter Try.func23, Try.ntmps23
   go_wp2_with (first | ((with_reducible refine gate_dst (N := 2) rfl ?_); refine Cz.bx (N := 2) #[.int .i64 a0_0, .int .i64 a0_1, .int .i64 a0_2, .slice A0_3 l0_3.length c0_3, .int .i64 a0_4, .int .i64 a0_5, .int .i64 a0_6] 38 ?_; intro gb191 hg w50 hbox hb; have BK191 := Aside0.mk (hbox); have GW191 := Aside0.mk ((Cz.gs hg : w.heap.size ≤ gb191)); have GE191 := GW191; replace HB := Cz.bs (w := w) hb; clear hb hbox hg) | ((with_reducible refine gate_dst (N := 3) rfl ?_); refine Cz.bx (N := 3) #[.int .i64 a1_0, .int .i64 a1_1, .int .i64 a1_2, .slice A1_3 l1_3.length c1_3, .int .i64 a1_4, .int .i64 a1_5, .int .i64 a1_6] 38 ?_; intro gb192 hg w51 hbox hb; have BK192 := Aside0.mk (hbox); have GW192 := Aside0.mk ((Cz.gs hg : w.heap.size ≤ gb192)); have GE192 := GW192; have NB191_192 := Aside0.mk ((Cz.nl BK191 hg : gb191 ≠ gb192)); have NB192_191 := Aside0.mk ((Cz.nr BK191 hg : gb192 ≠ gb191)); replace BK191 := Cz.bk BK191 hb; replace HB := Cz.bs (w := w) hb; clear hb hbox hg; have hnb52 := NB191_192.out; have hnc52 := NB192_191.out; obtain ⟨z53_0, z53_1, z53_2, z53_3, z53_4, z53_5, z53_6, y53_0, y53_1, y53_2, y53_3, y53_4, y53_5, y53_6⟩ := Cz.d7 BK191; obtain ⟨z54_0, z54_1, z54_2, z54_3, z54_4, z54_5, z54_6, y54_0, y54_1, y54_2, y54_3, y54_4, y54_5, y54_6⟩ := Cz.d7 BK192))
   go_ret
   exact ⟨Cz.er, Cz.bl (w := w)⟩
 ·rw [if_neg c3] at H
  have c3b0 : (a0_0 == a1_0) = false := beq_eq_false_iff_ne.mpr c3
  have c3b1 : (a0_0 != a1_0) = true := bne_iff_ne.mpr c3
  obtain rfl := Option.some.inj H
  go_enter Try.func23, Try.ntmps23
  go_wp2_with (first | ((with_reducible refine gate_dst (N := 2) rfl ?_); refine Cz.bx (N := 2) #[.int .i64 a0_0, .int .i64 a0_1, .int .i64 a0_2, .slice A0_3 l0_3.length c0_3, .int .i64 a0_4, .int .i64 a0_5, .int .i64 a0_6] 38 ?_; intro gb191 hg w55 hbox hb; have BK191 := Aside0.mk (hbox); have GW191 := Aside0.mk ((Cz.gs hg : w.heap.size ≤ gb191)); have GE191 := GW191; replace HB := Cz.bs (w := w) hb; clear hb hbox hg) | ((with_reducible refine gate_dst (N := 3) rfl ?_); refine Cz.bx (N := 3) #[.int .i64 a1_0, .int .i64 a1_1, .int .i64 a1_2, .slice A1_3 l1_3.length c1_3, .int .i64 a1_4, .int .i64 a1_5, .int .i64 a1_6] 38 ?_; intro gb192 hg w56 hbox hb; have BK192 := Aside0.mk (hbox); have GW192 := Aside0.mk ((Cz.gs hg : w.heap.size ≤ gb192)); have GE192 := GW192; have NB191_192 := Aside0.mk ((Cz.nl BK191 hg : gb191 ≠ gb192)); have NB192_191 := Aside0.mk ((Cz.nr BK191 hg : gb192 ≠ gb191)); replace BK191 := Cz.bk BK191 hb; replace HB := Cz.bs (w := w) hb; clear hb hbox hg; have hnb57 := NB191_192.out; have hnc57 := NB192_191.out; obtain ⟨z58_0, z58_1, z58_2, z58_3, z58_4, z58_5, z58_6, y58_0, y58_1, y58_2, y58_3, y58_4, y58_5, y58_6⟩ := Cz.d7 BK191; obtain ⟨z59_0, z59_1, z59_2, z59_3, z59_4, z59_5, z59_6, y59_0, y59_1, y59_2, y59_3, y59_4, y59_5, y59_6⟩ := Cz.d7 BK192))
  go_ret
  exact ⟨Cz.er, Cz.bl (w := w)⟩
def waggonerref16_Same.f (a0_0 a0_1 a0_2 : Int) (l0_3 : List Int) (a0_4 a0_5 a0_6 a1_0 a1_1 a1_2 : Int) (l1_3 : List Int) (a1_4 a1_5 a1_6 : Int) : Option Bool := if Pl.byteB l0_3 = true ∧ Pl.byteB l1_3 = true then some (decide (a0_0 = a1_0 ∧ a0_1 = a1_1 ∧ a0_2 = a1_2 ∧ l0_3 = l1_3 ∧ a0_4 = a1_4 ∧ a0_5 = a1_5 ∧ a0_6 = a1_6)) else none
theorem waggonerref16_Same.tells {a0_0 a0_1 a0_2 : Int} {l0_3 : List Int} {a0_4 a0_5 a0_6 a1_0 a1_1 a1_2 : Int} {l1_3 : List Int} {a1_4 a1_5 a1_6 : Int} (h0 : Pl.byteB l0_3 = true) (h1 : Pl.byteB l1_3 = true) : waggonerref16_Same.f a0_0 a0_1 a0_2 l0_3 a0_4 a0_5 a0_6 a1_0 a1_1 a1_2 l1_3 a1_4 a1_5 a1_6 = some (decide (a0_0 = a1_0 ∧ a0_1 = a1_1 ∧ a0_2 = a1_2 ∧ l0_3 = l1_3 ∧ a0_4 = a1_4 ∧ a0_5 = a1_5 ∧ a0_6 = a1_6)) := if_pos ⟨h0, h1⟩
theorem waggonerref16_Same.closes {a0_0 a0_1 a0_2 : Int} {l0_3 : List Int} {a0_4 a0_5 a0_6 a1_0 a1_1 a1_2 : Int} {l1_3 : List Int} {a1_4 a1_5 a1_6 : Int} {r : Bool} (h : waggonerref16_Same.f a0_0 a0_1 a0_2 l0_3 a0_4 a0_5 a0_6 a1_0 a1_1 a1_2 l1_3 a1_4 a1_5 a1_6 = some r) : waggonerref16_Same_p.f a0_0 a0_1 a0_2 l0_3 a0_4 a0_5 a0_6 a1_0 a1_1 a1_2 l1_3 a1_4 a1_5 a1_6 = some r := by
 unfold waggonerref16_Same.f at h
 split at h
 case isFalse => cases h
 rename_i hh
 rw [← h]
 unfold waggonerref16_Same_p.f
 have hs : (strOfNums l0_3).toList = (strOfNums l1_3).toList ↔ l0_3 = l1_3 := by
  have := Pl.str_eq hh.1 hh.2
  rw [Bool.eq_iff_iff, beq_iff_eq, beq_iff_eq] at this
  exact this
 by_cases c0 : a0_0 = a1_0
 rotate_left
 ·rw [if_neg c0, decide_eq_false (fun e => c0 e.1)]
 by_cases c1 : a0_1 = a1_1
 rotate_left
 ·rw [if_pos c0, if_neg c1, decide_eq_false (fun e => c1 e.2.1)]
 by_cases c2 : a0_2 = a1_2
 rotate_left
 ·rw [if_pos c0, if_pos c1, if_neg c2, decide_eq_false (fun e => c2 e.2.2.1)]
 by_cases c3 : l0_3 = l1_3
 rotate_left
 ·rw [if_pos c0, if_pos c1, if_pos c2, if_neg (fun e => c3 (hs.1 e)), decide_eq_false (fun e => c3 e.2.2.2.1)]
 by_cases c4 : a0_4 = a1_4
 rotate_left
 ·rw [if_pos c0, if_pos c1, if_pos c2, if_pos (hs.2 c3), if_neg c4, decide_eq_false (fun e => c4 e.2.2.2.2.1)]
 by_cases c5 : a0_5 = a1_5
 rotate_left
 ·rw [if_pos c0, if_pos c1, if_pos c2, if_pos (hs.2 c3), if_pos c4, if_neg c5, decide_eq_false (fun e => c5 e.2.2.2.2.2.1)]
 rw [if_pos c0, if_pos c1, if_pos c2, if_pos (hs.2 c3), if_pos c4, if_pos c5]
 by_cases c6 : a0_6 = a1_6 <;> simp [c0, c1, c2, c3, c4, c5, c6]
theorem waggonerref16_Same.calls (a0_0 : Int) (a0_1 : Int) (a0_2 : Int) (A0_3 : Option Addr) (c0_3 : Nat) (l0_3 : List Int) (a0_4 : Int) (a0_5 : Int) (a0_6 : Int) (a1_0 : Int) (a1_1 : Int) (a1_2 : Int) (A1_3 : Option Addr) (c1_3 : Nat) (l1_3 : List Int) (a1_4 : Int) (a1_5 : Int) (a1_6 : Int) (r : Bool) (w : World) (hr0_3 : Kd.C (Kd.int .u8) w A0_3 l0_3.length l0_3) (hc0_3 : l0_3.length ≤ c0_3) (hr1_3 : Kd.C (Kd.int .u8) w A1_3 l1_3.length l1_3) (hc1_3 : l1_3.length ≤ c1_3) (h : waggonerref16_Same.f a0_0 a0_1 a0_2 l0_3 a0_4 a0_5 a0_6 a1_0 a1_1 a1_2 l1_3 a1_4 a1_5 a1_6 = some r) :
  Calls Try.prog 23 #[.agg #[.int .i64 a0_0, .int .i64 a0_1, .int .i64 a0_2, .slice A0_3 l0_3.length c0_3, .int .i64 a0_4, .int .i64 a0_5, .int .i64 a0_6], .agg #[.int .i64 a1_0, .int .i64 a1_1, .int .i64 a1_2, .slice A1_3 l1_3.length c1_3, .int .i64 a1_4, .int .i64 a1_5, .int .i64 a1_6]] w fun e w' => e = .returned (.bool r) ∧ Below w.heap.size w w' :=
 waggonerref16_Same_p.calls a0_0 a0_1 a0_2 A0_3 c0_3 l0_3 a0_4 a0_5 a0_6 a1_0 a1_1 a1_2 A1_3 c1_3 l1_3 a1_4 a1_5 a1_6 r w hr0_3 hc0_3 hr1_3 hc1_3 (waggonerref16_Same.closes h)
end Go.Proofs.Ytohkmmbmfhficaa.PT
